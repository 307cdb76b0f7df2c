/- The network: the law NetworkOrder as a call. No condition. -/
import Derived.Test.YtphpjgfhdoobjaaNet19
set_option linter.unusedVariables false
set_option linter.unusedSectionVars false
set_option linter.unusedSimpArgs false
set_option maxHeartbeats 8000000
set_option maxRecDepth 20000
namespace Go.Proofs.Ytphpjgfhdoobjaa
open Go Go.Sy
attribute [local irreducible] AO AL AC OpT ACall Ends DGo DRun Thn Blk Nxt
variable {n a b v : Int} {i j k t d len : Nat} {z z2 : Bool} {m : Msg} {l : List Pk} {next : Int} {ys : List Int}

theorem mem_at4 {α : Type} [Inhabited α] {W : List α} {j : Nat} (h : j < W.length) : W.getD j default ∈ W := by
  rw [List.getD_eq_getElem?_getD, List.getElem?_eq_getElem h]; exact List.getElem_mem h
def om (t : Int) : Msg := { (default : Msg) with fr := 3, to := t }
theorem omc {t : Int} : mC (om t) = [.val (.int .i64 0), .val (.int .i64 3), .val (.int .i64 t), .val (.int .i64 0), .val (.int .i64 0), .val (.string ⟨#[]⟩), .val (.int .i64 0), .val (.int .i64 0), .val (.int .i64 0), .val (.int .i64 0), .val (.int .i64 0), .val (.string ⟨#[]⟩), .val (.string ⟨#[]⟩), .isl true [] 0, .isl true [] 0, .val (.int .i64 0), .val (.string ⟨#[]⟩), .isl true [] 0, .isl true [] 0, .isl true [] 0, .isl true [] 0] := rfl
/-- The party of packet i. -/
def pt4 (ys : List Int) (i : Nat) : Int := ys.getD i default % 4
def op4 (ys : List Int) (i : Nat) : Pk := ⟨i, 3, pt4 ys i, om (pt4 ys i)⟩
def oq (ys : List Int) (k : Nat) : List Pk := (List.range k).map (op4 ys)
theorem oq_len : (oq ys k).length = k := by simp [oq]
theorem oq_s : oq ys (k + 1) = oq ys k ++ [⟨(k : Int), (om (pt4 ys k)).fr, (om (pt4 ys k)).to, om (pt4 ys k)⟩] := by unfold oq; rw [List.range_succ, List.map_append]; rfl
theorem oq_at (h : i < k) : (oq ys k).getD i default = op4 ys i := by
  unfold oq; rw [List.getD_eq_getElem?_getD, List.getElem?_map, List.getElem?_range h]; rfl
theorem pt4_ok : pty 4 (pt4 ys i) = true := by unfold pty pt4; simp; omega
theorem o_send (h : k < 400) (h0 : 0 < k) : ACall Try.prog 12 [.pt 0 0, .agg (mC (om (pt4 ys k)))] (n1x 4 k (oq ys k) k []) 2 (.val (.int .i64 0)) (n1x 4 ((k : Int) + 1) (oq ys (k + 1)) (k + 1) []) := by
  have := send_ok (n := 4) (next := k) (l := oq ys k) (m := om (pt4 ys k)) (f := []) (show pty 4 3 = true by decide) pt4_ok (by rw [oq_len]; exact h) (by omega) (by omega)
  rw [n1_x oq_len, oq_len, ← oq_s] at this
  exact this
theorem o_send0 (h0 : k = 0) : ACall Try.prog 12 [.pt 0 0, .agg (mC (om (pt4 ys k)))] (n0 4 k []) 2 (.val (.int .i64 0)) (n1x 4 ((k : Int) + 1) (oq ys (k + 1)) (k + 1) []) := by
  subst h0
  exact send_ok0 (m := om (pt4 ys 0)) (show pty 4 3 = true by decide) pt4_ok (by decide) (by decide)
/-! ### what is still under way -/
def keep (t d : Nat) (p : Pk) : Bool := decide ((t : Int) < p.to ∨ (p.to = t ∧ (d : Int) ≤ p.id))
def F4 (ys : List Int) (len t d : Nat) : List Pk := (oq ys len).filter (keep t d)
theorem f4_le : (F4 ys len t d).length ≤ len := by
  have := List.length_filter_le (keep t d) (oq ys len)
  rwa [oq_len] at this
theorem oq_mem {p : Pk} (h : p ∈ oq ys len) : ∃ i, i < len ∧ p = op4 ys i := by
  unfold oq at h
  obtain ⟨i, hi, rfl⟩ := List.mem_map.1 h
  exact ⟨i, List.mem_range.1 hi, rfl⟩
theorem f4_ne (h : ¬ pt4 ys d = t) : F4 ys len t (d + 1) = F4 ys len t d := by
  unfold F4
  refine List.filter_congr (fun p hp => ?_)
  obtain ⟨i, hi, rfl⟩ := oq_mem hp
  unfold keep
  congr 1
  refine propext ?_
  show ((t : Int) < pt4 ys i ∨ (pt4 ys i = t ∧ ((d + 1 : Nat) : Int) ≤ (i : Int))) ↔ ((t : Int) < pt4 ys i ∨ (pt4 ys i = t ∧ (d : Int) ≤ (i : Int)))
  by_cases e : i = d
  · subst e; omega
  · omega
theorem f4_0 : F4 ys len 0 0 = oq ys len := by
  unfold F4
  rw [List.filter_eq_self]
  intro p hp
  obtain ⟨i, hi, rfl⟩ := oq_mem hp
  refine decide_eq_true ?_
  show ((0 : Nat) : Int) < pt4 ys i ∨ (pt4 ys i = (0 : Nat) ∧ ((0 : Nat) : Int) ≤ (i : Int))
  have : 0 ≤ pt4 ys i := by unfold pt4; omega
  omega
theorem f4_t : F4 ys len (t + 1) 0 = F4 ys len t len := by
  unfold F4
  refine List.filter_congr (fun p hp => ?_)
  obtain ⟨i, hi, rfl⟩ := oq_mem hp
  unfold keep
  congr 1
  refine propext ?_
  show (((t + 1 : Nat) : Int) < pt4 ys i ∨ (pt4 ys i = (t + 1 : Nat) ∧ ((0 : Nat) : Int) ≤ (i : Int))) ↔ ((t : Int) < pt4 ys i ∨ (pt4 ys i = t ∧ (len : Int) ≤ (i : Int)))
  omega
theorem f4_none : ix (opn [] (t : Int)) (F4 ys len t len) = -1 := by
  refine ix_none (fun i hi => ?_)
  have hm := mem_at4 hi
  generalize (F4 ys len t len).getD i default = p at hm
  unfold F4 at hm
  rw [List.mem_filter] at hm
  obtain ⟨q, hq, rfl⟩ := oq_mem hm.1
  have h2 := of_decide_eq_true hm.2
  have h3 : (t : Int) < pt4 ys q ∨ (pt4 ys q = t ∧ (len : Int) ≤ (q : Int)) := h2
  unfold opn
  rw [decide_eq_false (show ¬ (op4 ys q).to = t by show ¬ pt4 ys q = t; omega)]; rfl
theorem f4_hit (hd : d < len) (h : pt4 ys d = t) : ∃ q : Nat, ix (opn [] (t : Int)) (F4 ys len t d) = q ∧ (F4 ys len t d).getD q default = op4 ys d ∧ rm (F4 ys len t d) q = F4 ys len t (d + 1) := by
  have hsp : oq ys len = oq ys d ++ op4 ys d :: ((oq ys len).drop (d + 1)) := by
    have e : (oq ys len).drop d = op4 ys d :: (oq ys len).drop (d + 1) := by
      rw [List.drop_eq_getElem_cons (by rw [oq_len]; exact hd)]
      have := oq_at (ys := ys) hd
      rw [List.getD_eq_getElem?_getD, List.getElem?_eq_getElem (by rw [oq_len]; exact hd)] at this
      rw [← this]; rfl
    have e2 : (oq ys len).take d = oq ys d := by
      unfold oq; rw [← List.map_take, List.take_range, Nat.min_eq_left (by omega)]
    rw [← e, ← e2, List.take_append_drop]
  have hB : ∀ p ∈ (oq ys len).drop (d + 1), ∃ i, d < i ∧ p = op4 ys i := by
    intro p hp
    unfold oq at hp
    rw [← List.map_drop] at hp
    obtain ⟨i, hi, rfl⟩ := List.mem_map.1 hp
    obtain ⟨q, hq, rfl⟩ := List.mem_iff_getElem.1 hi
    refine ⟨_, ?_, rfl⟩
    simp only [List.getElem_drop, List.getElem_range]; omega
  have hk0 : keep t d (op4 ys d) = true := decide_eq_true (.inr ⟨h, Int.le_refl _⟩)
  have hk1 : keep t (d + 1) (op4 ys d) = false := decide_eq_false (by show ¬ ((t : Int) < pt4 ys d ∨ (pt4 ys d = t ∧ ((d + 1 : Nat) : Int) ≤ (d : Int))); omega)
  have hA : (oq ys d).filter (keep t (d + 1)) = (oq ys d).filter (keep t d) := by
    refine List.filter_congr (fun p hp => ?_)
    obtain ⟨i, hi, rfl⟩ := oq_mem hp
    unfold keep; congr 1
    refine propext ?_
    show ((t : Int) < pt4 ys i ∨ (pt4 ys i = t ∧ ((d + 1 : Nat) : Int) ≤ (i : Int))) ↔ ((t : Int) < pt4 ys i ∨ (pt4 ys i = t ∧ (d : Int) ≤ (i : Int)))
    omega
  have hBf : ((oq ys len).drop (d + 1)).filter (keep t (d + 1)) = ((oq ys len).drop (d + 1)).filter (keep t d) := by
    refine List.filter_congr (fun p hp => ?_)
    obtain ⟨i, hi, rfl⟩ := hB p hp
    unfold keep; congr 1
    refine propext ?_
    show ((t : Int) < pt4 ys i ∨ (pt4 ys i = t ∧ ((d + 1 : Nat) : Int) ≤ (i : Int))) ↔ ((t : Int) < pt4 ys i ∨ (pt4 ys i = t ∧ (d : Int) ≤ (i : Int)))
    omega
  have e0 : F4 ys len t d = (oq ys d).filter (keep t d) ++ op4 ys d :: ((oq ys len).drop (d + 1)).filter (keep t d) := by
    unfold F4
    conv => lhs; rw [hsp]
    rw [List.filter_append, List.filter_cons_of_pos hk0]
  have e1 : F4 ys len t (d + 1) = (oq ys d).filter (keep t d) ++ ((oq ys len).drop (d + 1)).filter (keep t d) := by
    unfold F4
    conv => lhs; rw [hsp]
    rw [List.filter_append, List.filter_cons_of_neg (by simp [hk1]), hA, hBf]
  have hA' : ∀ p ∈ (oq ys d).filter (keep t d), opn [] (t : Int) p = false := by
    intro p hp
    rw [List.mem_filter] at hp
    obtain ⟨i, hi, rfl⟩ := oq_mem hp.1
    have h3 : (t : Int) < pt4 ys i ∨ (pt4 ys i = t ∧ (d : Int) ≤ (i : Int)) := of_decide_eq_true hp.2
    unfold opn
    rw [decide_eq_false (show ¬ (op4 ys i).to = t by show ¬ pt4 ys i = t; omega)]; rfl
  rw [e0, e1]
  generalize (oq ys d).filter (keep t d) = A at hA'
  generalize ((oq ys len).drop (d + 1)).filter (keep t d) = Bq
  have eq1 : (A ++ op4 ys d :: Bq).getD A.length default = op4 ys d := by simp [List.getD_eq_getElem?_getD]
  refine ⟨A.length, ix_hit (by simp) (fun i hi => ?_) ?_, eq1, ?_⟩
  · have : (A ++ op4 ys d :: Bq).getD i default = A.getD i default := by
      simp only [List.getD_eq_getElem?_getD]; rw [List.getElem?_append_left hi]
    rw [this]; exact hA' _ (mem_at4 hi)
  · rw [eq1]; unfold opn; rw [decide_eq_true (show (op4 ys d).to = t from h)]; rfl
  · unfold rm; simp
theorem o_next (h : len ≤ 60) (hd : d < len) (ht : t < 4) (hp : pt4 ys d = t) : ACall Try.prog 13 [.pt 0 0, .val (.int .i64 t)] (n1x 4 len (F4 ys len t d) (F4 ys len t d).length []) 3 (.tup [.agg (pC (op4 ys d)), .val (.int .i64 0)]) (n1x 4 len (F4 ys len t (d + 1)) (F4 ys len t (d + 1)).length []) := by
  obtain ⟨q, h1, h2, h3⟩ := f4_hit hd hp
  have hl : (F4 ys len t d).length ≤ 1000 := Nat.le_trans f4_le (by omega)
  have := next_ok (n := 4) (next := len) (f := []) hl (show pty 4 t = true by unfold pty; simp; omega) h1
  rw [h2, h3, ← rm_len (ix_lt h1), h3] at this
  exact this
theorem o_none (h : len ≤ 60) (ht : t < 4) : ACall Try.prog 13 [.pt 0 0, .val (.int .i64 t)] (n1x 4 len (F4 ys len t len) (F4 ys len t len).length []) 3 (.tup [.agg (pC zPk), .val (.int .i64 9)]) (n1x 4 len (F4 ys len t len) (F4 ys len t len).length []) :=
  next_none (n := 4) (next := len) (f := []) (Nat.le_trans f4_le (by omega)) (show pty 4 t = true by unfold pty; simp; omega) f4_none
theorem pt4_def : ys.getD i default % 4 = pt4 ys i := rfl
theorem pt4_w : IntKind.i64.wrap (pt4 ys i) = pt4 ys i := w_i64 (by unfold pt4; omega)
theorem op4_id : (op4 ys i).id = i := rfl
theorem op4_to : (op4 ys i).to = pt4 ys i := rfl
def o1I (z : Bool) (ys : List Int) (i : {i : Nat // i ≤ ys.length}) : St :=
  ⟨91, 0, [(0,.isl z (cI .u8 ys) ys.length), (3,.pt 0 0), (32,.isl z (cI .u8 ys) ys.length), (33,.val (.int .i64 ys.length)), (34,.val (.int .i64 i.val))],
   [(0, some (.cells [.val (.int .i64 4), .val (.int .i64 i.val), nilOr i.val 2 24, .mp 1] 80)), (1, some (.map true 2 (bV [])))] ++ nilOb i.val 2 (cR (oq ys i.val)) 41⟩
def o2I (z : Bool) (ys : List Int) (t : {t : Nat // t ≤ 4}) : St :=
  ⟨91, 0, [(0,.isl z (cI .u8 ys) ys.length), (3,.pt 0 0), (46,.val (.int .i64 t.val))],
   [(0, some (.cells [.val (.int .i64 4), .val (.int .i64 ys.length), .sl 2 0 (F4 ys ys.length t.val 0).length 24, .mp 1] 80)), (1, some (.map true 2 (bV []))), (2, some (.cells (cR (F4 ys ys.length t.val 0)) 41))]⟩
def o3I (z : Bool) (ys : List Int) (t : Nat) (d : {d : Nat // d ≤ ys.length}) : St :=
  ⟨91, 0, [(0,.isl z (cI .u8 ys) ys.length), (3,.pt 0 0), (7,.val (.int .i64 t)), (46,.val (.int .i64 t)), (49,.isl z (cI .u8 ys) ys.length), (50,.val (.int .i64 ys.length)), (51,.val (.int .i64 d.val))],
   [(0, some (.cells [.val (.int .i64 4), .val (.int .i64 ys.length), .sl 2 0 (F4 ys ys.length t d.val).length 24, .mp 1] 80)), (1, some (.map true 2 (bV []))), (2, some (.cells (cR (F4 ys ys.length t d.val)) 41))]⟩
theorem order_big (hl2 : ys.length < 2^47) (hl : 60 < ys.length) : ACall Try.prog 3 [.isl z (cI .u8 ys) ys.length] [] 0 (.val (.bool true)) [] := by
  refine ACall.enter Try.func3 rfl (by simp [Try.ntmps3]) (by simp) ?_
  simp only [entry, idx, Try.ntmps3, List.length, List.map_cons, List.map_nil, List.append_nil, List.cons_append, List.nil_append, Nat.reduceAdd, Nat.zero_add, List.length_cons, List.length_nil]
  repeat' (first
    | (refine AC_seq ?_)
    | (refine AC_region_lit ?_)
    | ((first | refine AL_go rfl (fun K hK => ?_) | refine AL_go0 (fun K hK => ?_))
       (first | refine R_callG (f := 10) [] 0 false ?_)
       simp (dsimp := false) (disch := first | exact vD | fail) only [push_cast, List.reduceReplicate, Nat.reduceAdd, Nat.reduceMul, Nat.reduceSub, Nat.reduceEqDiff, Nat.reduceLT, Nat.reduceLeDiff, Nat.reduceBEq, Int.reduceToNat, Int.reduceEq, Int.reduceLT, Int.reduceLE, Int.reduceAdd, Int.reduceSub, Int.reduceMul, ↓reduceIte, reduceCtorEq]
       (repeat (refine aI ?_)); intro G hG; refine hG _ _ ?_; clear hG G
       (first | refine ⟨_, _, awake_ok, ?_⟩)
       simp (dsimp := false) (disch := first | exact vD | fail) only [push_cast, List.reduceReplicate, Nat.reduceAdd, Nat.reduceMul, Nat.reduceSub, Nat.reduceEqDiff, Nat.reduceLT, Nat.reduceLeDiff, Nat.reduceBEq, Int.reduceToNat, Int.reduceEq, Int.reduceLT, Int.reduceLE, Int.reduceAdd, Int.reduceSub, Int.reduceMul, ↓reduceIte, reduceCtorEq]
       (repeat (refine aI ?_)); (first | refine hK _ _ _ ?_ | refine hK _ _ ?_); clear hK K)
    | ((first | refine AL_go rfl (fun K hK => ?_) | refine AL_go0 (fun K hK => ?_))
       (first | refine R_move _ ?_ | refine R_assign _ ?_ | refine Q_load _ _ ?_ | refine Q_loadAgg _ _ ?_ | refine Q_fieldAddr _ _ _ ?_ | refine Q_indexAddr _ _ _ ?_ | refine Q_indexArr _ _ _ ?_ | refine Q_len _ _ ?_ | refine Q_lenStr _ _ ?_ | refine Q_pick _ _ _ ?_ | refine Q_not _ _ ?_ | refine Q_neg _ _ ?_ | refine Q_extract _ _ ?_ | refine R_alloc _ ?_ | refine Q_store _ _ _ ?_ | refine Q_build _ _ ?_ | refine Q_buildArr _ _ ?_ | refine Q_convert _ _ _ ?_ | refine Q_eqAgg _ _ _ _ ?_ | refine Q_neqAgg _ _ _ _ ?_ | refine Q_neqSelf _ _ _ _ ?_ | refine Q_bin _ _ _ _ _ ?_)
       simp (dsimp := false) (disch := first | exact vD | fail) only [push_cast, List.reduceReplicate, Nat.reduceAdd, Nat.reduceMul, Nat.reduceSub, Nat.reduceEqDiff, Nat.reduceLT, Nat.reduceLeDiff, Nat.reduceBEq, Int.reduceToNat, Int.reduceEq, Int.reduceLT, Int.reduceLE, Int.reduceAdd, Int.reduceSub, Int.reduceMul, ↓reduceIte, reduceCtorEq]
       (repeat (refine aI ?_)); (first | refine hK _ _ _ ?_ | refine hK _ _ ?_); clear hK K)
    | ((first | refine AL_go rfl (fun K hK => ?_) | refine AL_go0 (fun K hK => ?_))
       (first | refine Q_eqnil _ _ _ _ ?_ | refine Q_neqnil _ _ _ _ ?_)
       simp (dsimp := false) (disch := first | exact vD | fail) only [push_cast, List.reduceReplicate, Nat.reduceAdd, Nat.reduceMul, Nat.reduceSub, Nat.reduceEqDiff, Nat.reduceLT, Nat.reduceLeDiff, Nat.reduceBEq, Int.reduceToNat, Int.reduceEq, Int.reduceLT, Int.reduceLE, Int.reduceAdd, Int.reduceSub, Int.reduceMul, ↓reduceIte, reduceCtorEq]
       (repeat (refine aI ?_)); (first | refine hK _ _ _ ?_ | refine hK _ _ ?_); clear hK K)
    | ((first | refine AL_guard rfl rfl (fun K1 K2 h1 h2 => ?_) rfl | refine AC_cond_k (fun K1 K2 h1 h2 => ?_))
       simp (dsimp := false) (disch := first | exact vD | fail) only [push_cast, List.reduceReplicate, Nat.reduceAdd, Nat.reduceMul, Nat.reduceSub, Nat.reduceEqDiff, Nat.reduceLT, Nat.reduceLeDiff, Nat.reduceBEq, Int.reduceToNat, Int.reduceEq, Int.reduceLT, Int.reduceLE, Int.reduceAdd, Int.reduceSub, Int.reduceMul, ↓reduceIte, reduceCtorEq]
       first | (refine ⟨fun hc => ?_, fun hc => ?_⟩ <;> first | (exfalso; omega) | (exfalso; contradiction) | refine h1 ?_ | refine h2 ?_) | refine h1 ?_ | refine h2 ?_
       all_goals clear h1 h2 K1 K2)
    | (refine AL_nil ?_) | (refine Thn_normal ?_) | (refine Thn_ret ?_) | (refine Thn_exit ?_) | (refine Blk_normal ?_) | (refine Blk_ret ?_) | (refine Blk_here ?_) | (refine Blk_other rfl ?_) | (refine AC_block ?_) | (refine AC_exit ?_) | (refine AC_skip ?_) | (refine AC_ret ?_))
  all_goals (refine Ends.mk2 (by first | exact .inr rfl | exact .inl rfl) [] ?_; simp (dsimp := false) (disch := first | exact vD | fail) only [push_cast, List.reduceReplicate, Nat.reduceAdd, Nat.reduceMul, Nat.reduceSub, Nat.reduceEqDiff, Nat.reduceLT, Nat.reduceLeDiff, Nat.reduceBEq, Int.reduceToNat, Int.reduceEq, Int.reduceLT, Int.reduceLE, Int.reduceAdd, Int.reduceSub, Int.reduceMul, ↓reduceIte, reduceCtorEq, Try.f3]; (repeat (refine aI ?_)); try (first | exact vI | fail))
theorem order_ok (hl : ys.length ≤ 60) (h0 : 0 < ys.length) (hy : ∀ y ∈ ys, 0 ≤ y ∧ y ≤ 255) : ACall Try.prog 3 [.isl z (cI .u8 ys) ys.length] [] 0 (.val (.bool true)) [] := by
  refine ACall.enter Try.func3 rfl (by simp [Try.ntmps3]) (by simp) ?_
  simp only [entry, idx, Try.ntmps3, List.length, List.map_cons, List.map_nil, List.append_nil, List.cons_append, List.nil_append, Nat.reduceAdd, Nat.zero_add, List.length_cons, List.length_nil]
  repeat' (first
    | (refine AC_loop_id ?_; refine AC_loop' [0,1,2] ([0,1,2].length) (o3I z ys t) (fun d => ys.length - d.val) (⟨0, by omega⟩) rfl (by unfold o3I; (try simp only [List.cons_append, List.nil_append]); refine Sub.mk2 ?_; (simp (dsimp := false) (disch := first | exact vD | fail) only [push_cast, List.reduceReplicate, Nat.reduceAdd, Nat.reduceMul, Nat.reduceSub, Nat.reduceEqDiff, Nat.reduceLT, Nat.reduceLeDiff, Nat.reduceBEq, Int.reduceToNat, Int.reduceEq, Int.reduceLT, Int.reduceLE, Int.reduceAdd, Int.reduceSub, Int.reduceMul, ↓reduceIte, reduceCtorEq, n0, n1x, omc, pt4_def, pt4_w, op4_id, op4_to, f4_0, oq_len, f4_t, f4_ne]); (repeat (refine aI ?_)); (first | done | (first | exact vI | fail)); done) ?_; (rintro ⟨d, hd⟩; have hyd := fun h : d < ys.length => hy _ (mem_at4 h); (simp (dsimp := false) (disch := first | exact vD | fail) only [push_cast, List.reduceReplicate, Nat.reduceAdd, Nat.reduceMul, Nat.reduceSub, Nat.reduceEqDiff, Nat.reduceLT, Nat.reduceLeDiff, Nat.reduceBEq, Int.reduceToNat, Int.reduceEq, Int.reduceLT, Int.reduceLE, Int.reduceAdd, Int.reduceSub, Int.reduceMul, ↓reduceIte, reduceCtorEq, o3I])))
    | (refine Nxt_id ?_; refine Nxt.mk [0,1,2] (⟨d + 1, by omega⟩) rfl (by unfold o3I; (try simp only [List.cons_append, List.nil_append]); refine Sub.mk2 ?_; (simp (dsimp := false) (disch := first | exact vD | fail) only [push_cast, List.reduceReplicate, Nat.reduceAdd, Nat.reduceMul, Nat.reduceSub, Nat.reduceEqDiff, Nat.reduceLT, Nat.reduceLeDiff, Nat.reduceBEq, Int.reduceToNat, Int.reduceEq, Int.reduceLT, Int.reduceLE, Int.reduceAdd, Int.reduceSub, Int.reduceMul, ↓reduceIte, reduceCtorEq, n0, n1x, omc, pt4_def, pt4_w, op4_id, op4_to, f4_0, oq_len, f4_t, f4_ne]); (repeat (refine aI ?_)); (first | done | (first | exact vI | fail)); done) (by first | omega | (simp; done) | (simp; omega)))
    | (have edl : d = ys.length := (by omega); subst edl)
    | (refine AC_loop_id ?_; refine AC_loop' [0,1,2] ([0,1,2].length) (o2I z ys) (fun t => 4 - t.val) (⟨0, by omega⟩) rfl (by unfold o2I; (try simp only [List.cons_append, List.nil_append]); refine Sub.mk2 ?_; (simp (dsimp := false) (disch := first | exact vD | fail) only [push_cast, List.reduceReplicate, Nat.reduceAdd, Nat.reduceMul, Nat.reduceSub, Nat.reduceEqDiff, Nat.reduceLT, Nat.reduceLeDiff, Nat.reduceBEq, Int.reduceToNat, Int.reduceEq, Int.reduceLT, Int.reduceLE, Int.reduceAdd, Int.reduceSub, Int.reduceMul, ↓reduceIte, reduceCtorEq, n0, n1x, omc, pt4_def, pt4_w, op4_id, op4_to, f4_0, oq_len, f4_t, f4_ne]); (repeat (refine aI ?_)); (first | done | (first | exact vI | fail)); done) ?_; (rintro ⟨t, ht⟩; (simp (dsimp := false) (disch := first | exact vD | fail) only [push_cast, List.reduceReplicate, Nat.reduceAdd, Nat.reduceMul, Nat.reduceSub, Nat.reduceEqDiff, Nat.reduceLT, Nat.reduceLeDiff, Nat.reduceBEq, Int.reduceToNat, Int.reduceEq, Int.reduceLT, Int.reduceLE, Int.reduceAdd, Int.reduceSub, Int.reduceMul, ↓reduceIte, reduceCtorEq, o2I])))
    | (refine Nxt_id ?_; refine Nxt.mk [0,1,2] (⟨t + 1, by omega⟩) rfl (by unfold o2I; (try simp only [List.cons_append, List.nil_append]); refine Sub.mk2 ?_; (simp (dsimp := false) (disch := first | exact vD | fail) only [push_cast, List.reduceReplicate, Nat.reduceAdd, Nat.reduceMul, Nat.reduceSub, Nat.reduceEqDiff, Nat.reduceLT, Nat.reduceLeDiff, Nat.reduceBEq, Int.reduceToNat, Int.reduceEq, Int.reduceLT, Int.reduceLE, Int.reduceAdd, Int.reduceSub, Int.reduceMul, ↓reduceIte, reduceCtorEq, n0, n1x, omc, pt4_def, pt4_w, op4_id, op4_to, f4_0, oq_len, f4_t, f4_ne]); (repeat (refine aI ?_)); (first | done | (first | exact vI | fail)); done) (by first | omega | (simp; done) | (simp; omega)))
    | (refine AC_loop_id ?_; refine AC_loop' [0,1,9] ([0,1,9].length) (o1I z ys) (fun i => ys.length - i.val) (⟨0, by omega⟩) rfl (by unfold o1I; (try simp only [List.cons_append, List.nil_append]); refine Sub.mk2 ?_; (simp (dsimp := false) (disch := first | exact vD | fail) only [push_cast, List.reduceReplicate, Nat.reduceAdd, Nat.reduceMul, Nat.reduceSub, Nat.reduceEqDiff, Nat.reduceLT, Nat.reduceLeDiff, Nat.reduceBEq, Int.reduceToNat, Int.reduceEq, Int.reduceLT, Int.reduceLE, Int.reduceAdd, Int.reduceSub, Int.reduceMul, ↓reduceIte, reduceCtorEq, n0, n1x, omc, pt4_def, pt4_w, op4_id, op4_to, f4_0, oq_len, f4_t, f4_ne]); (repeat (refine aI ?_)); (first | done | (first | exact vI | fail)); done) ?_; (rintro ⟨i, hi⟩; have hyd := fun h : i < ys.length => hy _ (mem_at4 h); rcases Nat.eq_zero_or_pos i with hi0 | hi0 <;> (simp (dsimp := false) (disch := first | exact vD | fail) only [push_cast, List.reduceReplicate, Nat.reduceAdd, Nat.reduceMul, Nat.reduceSub, Nat.reduceEqDiff, Nat.reduceLT, Nat.reduceLeDiff, Nat.reduceBEq, Int.reduceToNat, Int.reduceEq, Int.reduceLT, Int.reduceLE, Int.reduceAdd, Int.reduceSub, Int.reduceMul, ↓reduceIte, reduceCtorEq, o1I])))
    | (refine Nxt_id ?_; refine Nxt.mk [0,1,3] (⟨i + 1, by omega⟩) rfl (by unfold o1I; (try simp only [List.cons_append, List.nil_append]); refine Sub.mk2 ?_; (simp (dsimp := false) (disch := first | exact vD | fail) only [push_cast, List.reduceReplicate, Nat.reduceAdd, Nat.reduceMul, Nat.reduceSub, Nat.reduceEqDiff, Nat.reduceLT, Nat.reduceLeDiff, Nat.reduceBEq, Int.reduceToNat, Int.reduceEq, Int.reduceLT, Int.reduceLE, Int.reduceAdd, Int.reduceSub, Int.reduceMul, ↓reduceIte, reduceCtorEq, n0, n1x, omc, pt4_def, pt4_w, op4_id, op4_to, f4_0, oq_len, f4_t, f4_ne]); (repeat (refine aI ?_)); (first | done | (first | exact vI | fail)); done) (by first | omega | (simp; done) | (simp; omega)))
    | (have eil : i = ys.length := (by omega); subst eil)
    | (refine AC_seq ?_)
    | (refine AC_region_lit ?_)
    | ((first | refine AL_go rfl (fun K hK => ?_) | refine AL_go0 (fun K hK => ?_))
       (first | refine R_callG (f := 10) [] 0 false ?_ | refine R_callG (f := 11) [] 0 false ?_ | refine R_callG (f := 13) (dst := some 64) [0,1,2] 3 false ?_ | refine R_callG (f := 13) (dst := some 85) [0,1,2] 3 false ?_)
       simp (dsimp := false) (disch := first | exact vD | fail) only [push_cast, List.reduceReplicate, Nat.reduceAdd, Nat.reduceMul, Nat.reduceSub, Nat.reduceEqDiff, Nat.reduceLT, Nat.reduceLeDiff, Nat.reduceBEq, Int.reduceToNat, Int.reduceEq, Int.reduceLT, Int.reduceLE, Int.reduceAdd, Int.reduceSub, Int.reduceMul, ↓reduceIte, reduceCtorEq, n0, n1x, omc, pt4_def, pt4_w, op4_id, op4_to, f4_0, oq_len, f4_t, f4_ne]
       (repeat (refine aI ?_)); intro G hG; refine hG _ _ ?_; clear hG G
       (first | refine ⟨_, _, awake_ok, ?_⟩ | refine ⟨_, _, new_ok (by decide), ?_⟩ | refine ⟨_, _, o_next (ys := ys) (d := d) (t := t) hl (by omega) (by omega) (by omega), ?_⟩ | refine ⟨_, _, o_none (ys := ys) (t := t) hl (by omega), ?_⟩)
       simp (dsimp := false) (disch := first | exact vD | fail) only [push_cast, List.reduceReplicate, Nat.reduceAdd, Nat.reduceMul, Nat.reduceSub, Nat.reduceEqDiff, Nat.reduceLT, Nat.reduceLeDiff, Nat.reduceBEq, Int.reduceToNat, Int.reduceEq, Int.reduceLT, Int.reduceLE, Int.reduceAdd, Int.reduceSub, Int.reduceMul, ↓reduceIte, reduceCtorEq, n0, n1x, omc, pt4_def, pt4_w, op4_id, op4_to, f4_0, oq_len, f4_t, f4_ne]
       (repeat (refine aI ?_)); (first | refine hK _ _ _ ?_ | refine hK _ _ ?_); clear hK K)
    | ((first | refine AL_go rfl (fun K hK => ?_) | refine AL_go0 (fun K hK => ?_))
       (first
        | (refine R_callG (f := 12) [0,1] 2 false ?_
           simp (dsimp := false) (disch := first | exact vD | fail) only [push_cast, List.reduceReplicate, Nat.reduceAdd, Nat.reduceMul, Nat.reduceSub, Nat.reduceEqDiff, Nat.reduceLT, Nat.reduceLeDiff, Nat.reduceBEq, Int.reduceToNat, Int.reduceEq, Int.reduceLT, Int.reduceLE, Int.reduceAdd, Int.reduceSub, Int.reduceMul, ↓reduceIte, reduceCtorEq, n0, n1x, omc, pt4_def, pt4_w, op4_id, op4_to, f4_0, oq_len, f4_t, f4_ne]
           (repeat (refine aI ?_)); intro G hG; refine hG _ _ ?_; clear hG G
           refine ⟨_, _, o_send0 (ys := ys) (k := i) hi0, ?_⟩
           simp (dsimp := false) (disch := first | exact vD | fail) only [push_cast, List.reduceReplicate, Nat.reduceAdd, Nat.reduceMul, Nat.reduceSub, Nat.reduceEqDiff, Nat.reduceLT, Nat.reduceLeDiff, Nat.reduceBEq, Int.reduceToNat, Int.reduceEq, Int.reduceLT, Int.reduceLE, Int.reduceAdd, Int.reduceSub, Int.reduceMul, ↓reduceIte, reduceCtorEq, n0, n1x, omc, pt4_def, pt4_w, op4_id, op4_to, f4_0, oq_len, f4_t, f4_ne]
           (repeat (refine aI ?_)); (first | refine hK _ _ _ ?_ | refine hK _ _ ?_); clear hK K)
        | (refine R_callG (f := 12) [0,1,2] 2 false ?_
           simp (dsimp := false) (disch := first | exact vD | fail) only [push_cast, List.reduceReplicate, Nat.reduceAdd, Nat.reduceMul, Nat.reduceSub, Nat.reduceEqDiff, Nat.reduceLT, Nat.reduceLeDiff, Nat.reduceBEq, Int.reduceToNat, Int.reduceEq, Int.reduceLT, Int.reduceLE, Int.reduceAdd, Int.reduceSub, Int.reduceMul, ↓reduceIte, reduceCtorEq, n0, n1x, omc, pt4_def, pt4_w, op4_id, op4_to, f4_0, oq_len, f4_t, f4_ne]
           (repeat (refine aI ?_)); intro G hG; refine hG _ _ ?_; clear hG G
           refine ⟨_, _, o_send (ys := ys) (k := i) (by omega) (by omega), ?_⟩
           simp (dsimp := false) (disch := first | exact vD | fail) only [push_cast, List.reduceReplicate, Nat.reduceAdd, Nat.reduceMul, Nat.reduceSub, Nat.reduceEqDiff, Nat.reduceLT, Nat.reduceLeDiff, Nat.reduceBEq, Int.reduceToNat, Int.reduceEq, Int.reduceLT, Int.reduceLE, Int.reduceAdd, Int.reduceSub, Int.reduceMul, ↓reduceIte, reduceCtorEq, n0, n1x, omc, pt4_def, pt4_w, op4_id, op4_to, f4_0, oq_len, f4_t, f4_ne]
           (repeat (refine aI ?_)); (first | refine hK _ _ _ ?_ | refine hK _ _ ?_); clear hK K)))
    | ((first | refine AL_go rfl (fun K hK => ?_) | refine AL_go0 (fun K hK => ?_))
       (first | refine R_move _ ?_ | refine R_assign _ ?_ | refine Q_load _ _ ?_ | refine Q_loadAgg _ _ ?_ | refine Q_fieldAddr _ _ _ ?_ | refine Q_indexAddr _ _ _ ?_ | refine Q_indexArr _ _ _ ?_ | refine Q_len _ _ ?_ | refine Q_lenStr _ _ ?_ | refine Q_pick _ _ _ ?_ | refine Q_not _ _ ?_ | refine Q_neg _ _ ?_ | refine Q_extract _ _ ?_ | refine R_alloc _ ?_ | refine Q_store _ _ _ ?_ | refine Q_build _ _ ?_ | refine Q_buildArr _ _ ?_ | refine Q_convert _ _ _ ?_ | refine Q_eqAgg _ _ _ _ ?_ | refine Q_neqAgg _ _ _ _ ?_ | refine Q_neqSelf _ _ _ _ ?_ | refine Q_bin _ _ _ _ _ ?_)
       simp (dsimp := false) (disch := first | exact vD | fail) only [push_cast, List.reduceReplicate, Nat.reduceAdd, Nat.reduceMul, Nat.reduceSub, Nat.reduceEqDiff, Nat.reduceLT, Nat.reduceLeDiff, Nat.reduceBEq, Int.reduceToNat, Int.reduceEq, Int.reduceLT, Int.reduceLE, Int.reduceAdd, Int.reduceSub, Int.reduceMul, ↓reduceIte, reduceCtorEq, n0, n1x, omc, pt4_def, pt4_w, op4_id, op4_to, f4_0, oq_len, f4_t, f4_ne]
       (repeat (refine aI ?_)); (first | refine hK _ _ _ ?_ | refine hK _ _ ?_); clear hK K)
    | ((first | refine AL_go rfl (fun K hK => ?_) | refine AL_go0 (fun K hK => ?_))
       (first | refine Q_eqnil _ _ _ _ ?_ | refine Q_neqnil _ _ _ _ ?_)
       simp (dsimp := false) (disch := first | exact vD | fail) only [push_cast, List.reduceReplicate, Nat.reduceAdd, Nat.reduceMul, Nat.reduceSub, Nat.reduceEqDiff, Nat.reduceLT, Nat.reduceLeDiff, Nat.reduceBEq, Int.reduceToNat, Int.reduceEq, Int.reduceLT, Int.reduceLE, Int.reduceAdd, Int.reduceSub, Int.reduceMul, ↓reduceIte, reduceCtorEq, n0, n1x, omc, pt4_def, pt4_w, op4_id, op4_to, f4_0, oq_len, f4_t, f4_ne]
       (repeat (refine aI ?_)); (first | refine hK _ _ _ ?_ | refine hK _ _ ?_); clear hK K)
    | ((first | refine AL_guard rfl rfl (fun K1 K2 h1 h2 => ?_) rfl | refine AC_cond_k (fun K1 K2 h1 h2 => ?_))
       simp (dsimp := false) (disch := first | exact vD | fail) only [push_cast, List.reduceReplicate, Nat.reduceAdd, Nat.reduceMul, Nat.reduceSub, Nat.reduceEqDiff, Nat.reduceLT, Nat.reduceLeDiff, Nat.reduceBEq, Int.reduceToNat, Int.reduceEq, Int.reduceLT, Int.reduceLE, Int.reduceAdd, Int.reduceSub, Int.reduceMul, ↓reduceIte, reduceCtorEq, n0, n1x, omc, pt4_def, pt4_w, op4_id, op4_to, f4_0, oq_len, f4_t, f4_ne]
       first | (refine ⟨fun hc => ?_, fun hc => ?_⟩ <;> first | (exfalso; omega) | (exfalso; contradiction) | refine h1 ?_ | refine h2 ?_) | refine h1 ?_ | refine h2 ?_
       all_goals clear h1 h2 K1 K2)
    | (refine AL_nil ?_) | (refine Thn_normal ?_) | (refine Thn_ret ?_) | (refine Thn_exit ?_) | (refine Blk_normal ?_) | (refine Blk_ret ?_) | (refine Blk_here ?_) | (refine Blk_other rfl ?_) | (refine AC_block ?_) | (refine AC_exit ?_) | (refine AC_skip ?_) | (refine AC_ret ?_))
  all_goals (refine Ends.mk2 (by first | exact .inr rfl | exact .inl rfl) [] ?_; simp (dsimp := false) (disch := first | exact vD | fail) only [push_cast, List.reduceReplicate, Nat.reduceAdd, Nat.reduceMul, Nat.reduceSub, Nat.reduceEqDiff, Nat.reduceLT, Nat.reduceLeDiff, Nat.reduceBEq, Int.reduceToNat, Int.reduceEq, Int.reduceLT, Int.reduceLE, Int.reduceAdd, Int.reduceSub, Int.reduceMul, ↓reduceIte, reduceCtorEq, Try.f3]; (repeat (refine aI ?_)); try (first | exact vI | fail))
def oe1 (z : Bool) (_ : Unit) : St :=
  ⟨91, 0, [(0,.isl z [] 0), (3,.pt 0 0), (32,.isl z [] 0), (33,.val (.int .i64 0)), (34,.val (.int .i64 0))], [(0, some (.cells [.val (.int .i64 4), .val (.int .i64 0), .isl true [] 0, .mp 1] 80)), (1, some (.map true 2 (bV [])))]⟩
def oe2 (z : Bool) (t : {t : Nat // t ≤ 4}) : St :=
  ⟨91, 0, [(0,.isl z [] 0), (3,.pt 0 0), (46,.val (.int .i64 t.val))], [(0, some (.cells [.val (.int .i64 4), .val (.int .i64 0), .isl true [] 0, .mp 1] 80)), (1, some (.map true 2 (bV [])))]⟩
def oe3 (z : Bool) (t : Nat) (_ : Unit) : St :=
  ⟨91, 0, [(0,.isl z [] 0), (3,.pt 0 0), (7,.val (.int .i64 t)), (46,.val (.int .i64 t)), (50,.val (.int .i64 0)), (51,.val (.int .i64 0))], [(0, some (.cells [.val (.int .i64 4), .val (.int .i64 0), .isl true [] 0, .mp 1] 80)), (1, some (.map true 2 (bV [])))]⟩
theorem o_noneE (ht : t < 4) : ACall Try.prog 13 [.pt 0 0, .val (.int .i64 t)] (n0 4 0 []) 2 (.tup [.agg (pC zPk), .val (.int .i64 9)]) (n0 4 0 []) := next_none0 (show pty 4 t = true by unfold pty; simp; omega)
theorem order_nil : ACall Try.prog 3 [.isl z [] 0] [] 0 (.val (.bool true)) [] := by
  refine ACall.enter Try.func3 rfl (by simp [Try.ntmps3]) (by simp) ?_
  simp only [entry, idx, Try.ntmps3, List.length, List.map_cons, List.map_nil, List.append_nil, List.cons_append, List.nil_append, Nat.reduceAdd, Nat.zero_add, List.length_cons, List.length_nil]
  repeat' (first
    | (refine AC_loop_id ?_; refine AC_loop' [0,1] ([0,1].length) (oe3 z t) (fun _ => 0) (()) rfl (by unfold oe3; (try simp only [List.cons_append, List.nil_append]); refine Sub.mk2 ?_; (simp (dsimp := false) (disch := first | exact vD | fail) only [push_cast, List.reduceReplicate, Nat.reduceAdd, Nat.reduceMul, Nat.reduceSub, Nat.reduceEqDiff, Nat.reduceLT, Nat.reduceLeDiff, Nat.reduceBEq, Int.reduceToNat, Int.reduceEq, Int.reduceLT, Int.reduceLE, Int.reduceAdd, Int.reduceSub, Int.reduceMul, ↓reduceIte, reduceCtorEq, n0]); (repeat (refine aI ?_)); (first | done | (first | exact vI | fail)); done) ?_; (intro _; (simp (dsimp := false) (disch := first | exact vD | fail) only [push_cast, List.reduceReplicate, Nat.reduceAdd, Nat.reduceMul, Nat.reduceSub, Nat.reduceEqDiff, Nat.reduceLT, Nat.reduceLeDiff, Nat.reduceBEq, Int.reduceToNat, Int.reduceEq, Int.reduceLT, Int.reduceLE, Int.reduceAdd, Int.reduceSub, Int.reduceMul, ↓reduceIte, reduceCtorEq, oe3])))
    | (refine AC_loop_id ?_; refine AC_loop' [0,1] ([0,1].length) (oe2 z) (fun t => 4 - t.val) (⟨0, by omega⟩) rfl (by unfold oe2; (try simp only [List.cons_append, List.nil_append]); refine Sub.mk2 ?_; (simp (dsimp := false) (disch := first | exact vD | fail) only [push_cast, List.reduceReplicate, Nat.reduceAdd, Nat.reduceMul, Nat.reduceSub, Nat.reduceEqDiff, Nat.reduceLT, Nat.reduceLeDiff, Nat.reduceBEq, Int.reduceToNat, Int.reduceEq, Int.reduceLT, Int.reduceLE, Int.reduceAdd, Int.reduceSub, Int.reduceMul, ↓reduceIte, reduceCtorEq, n0]); (repeat (refine aI ?_)); (first | done | (first | exact vI | fail)); done) ?_; (rintro ⟨t, ht⟩; (simp (dsimp := false) (disch := first | exact vD | fail) only [push_cast, List.reduceReplicate, Nat.reduceAdd, Nat.reduceMul, Nat.reduceSub, Nat.reduceEqDiff, Nat.reduceLT, Nat.reduceLeDiff, Nat.reduceBEq, Int.reduceToNat, Int.reduceEq, Int.reduceLT, Int.reduceLE, Int.reduceAdd, Int.reduceSub, Int.reduceMul, ↓reduceIte, reduceCtorEq, oe2])))
    | (refine Nxt_id ?_; refine Nxt.mk [0,1] (⟨t + 1, by omega⟩) rfl (by unfold oe2; (try simp only [List.cons_append, List.nil_append]); refine Sub.mk2 ?_; (simp (dsimp := false) (disch := first | exact vD | fail) only [push_cast, List.reduceReplicate, Nat.reduceAdd, Nat.reduceMul, Nat.reduceSub, Nat.reduceEqDiff, Nat.reduceLT, Nat.reduceLeDiff, Nat.reduceBEq, Int.reduceToNat, Int.reduceEq, Int.reduceLT, Int.reduceLE, Int.reduceAdd, Int.reduceSub, Int.reduceMul, ↓reduceIte, reduceCtorEq, n0]); (repeat (refine aI ?_)); (first | done | (first | exact vI | fail)); done) (by first | omega | (simp; done) | (simp; omega)))
    | (refine AC_loop_id ?_; refine AC_loop' [0,1] ([0,1].length) (oe1 z) (fun _ => 0) (()) rfl (by unfold oe1; (try simp only [List.cons_append, List.nil_append]); refine Sub.mk2 ?_; (simp (dsimp := false) (disch := first | exact vD | fail) only [push_cast, List.reduceReplicate, Nat.reduceAdd, Nat.reduceMul, Nat.reduceSub, Nat.reduceEqDiff, Nat.reduceLT, Nat.reduceLeDiff, Nat.reduceBEq, Int.reduceToNat, Int.reduceEq, Int.reduceLT, Int.reduceLE, Int.reduceAdd, Int.reduceSub, Int.reduceMul, ↓reduceIte, reduceCtorEq, n0]); (repeat (refine aI ?_)); (first | done | (first | exact vI | fail)); done) ?_; (intro _; (simp (dsimp := false) (disch := first | exact vD | fail) only [push_cast, List.reduceReplicate, Nat.reduceAdd, Nat.reduceMul, Nat.reduceSub, Nat.reduceEqDiff, Nat.reduceLT, Nat.reduceLeDiff, Nat.reduceBEq, Int.reduceToNat, Int.reduceEq, Int.reduceLT, Int.reduceLE, Int.reduceAdd, Int.reduceSub, Int.reduceMul, ↓reduceIte, reduceCtorEq, oe1])))
    | (refine AC_seq ?_)
    | (refine AC_region_lit ?_)
    | ((first | refine AL_go rfl (fun K hK => ?_) | refine AL_go0 (fun K hK => ?_))
       (first | refine R_callG (f := 10) [] 0 false ?_ | refine R_callG (f := 11) [] 0 false ?_ | refine R_callG (f := 13) [0,1] 2 false ?_)
       simp (dsimp := false) (disch := first | exact vD | fail) only [push_cast, List.reduceReplicate, Nat.reduceAdd, Nat.reduceMul, Nat.reduceSub, Nat.reduceEqDiff, Nat.reduceLT, Nat.reduceLeDiff, Nat.reduceBEq, Int.reduceToNat, Int.reduceEq, Int.reduceLT, Int.reduceLE, Int.reduceAdd, Int.reduceSub, Int.reduceMul, ↓reduceIte, reduceCtorEq, n0]
       (repeat (refine aI ?_)); intro G hG; refine hG _ _ ?_; clear hG G
       (first | refine ⟨_, _, awake_ok, ?_⟩ | refine ⟨_, _, new_ok (by decide), ?_⟩ | refine ⟨_, _, o_noneE (t := t) (by omega), ?_⟩)
       simp (dsimp := false) (disch := first | exact vD | fail) only [push_cast, List.reduceReplicate, Nat.reduceAdd, Nat.reduceMul, Nat.reduceSub, Nat.reduceEqDiff, Nat.reduceLT, Nat.reduceLeDiff, Nat.reduceBEq, Int.reduceToNat, Int.reduceEq, Int.reduceLT, Int.reduceLE, Int.reduceAdd, Int.reduceSub, Int.reduceMul, ↓reduceIte, reduceCtorEq, n0]
       (repeat (refine aI ?_)); (first | refine hK _ _ _ ?_ | refine hK _ _ ?_); clear hK K)
    | ((first | refine AL_go rfl (fun K hK => ?_) | refine AL_go0 (fun K hK => ?_))
       (first | refine R_move _ ?_ | refine R_assign _ ?_ | refine Q_load _ _ ?_ | refine Q_loadAgg _ _ ?_ | refine Q_fieldAddr _ _ _ ?_ | refine Q_indexAddr _ _ _ ?_ | refine Q_indexArr _ _ _ ?_ | refine Q_len _ _ ?_ | refine Q_lenStr _ _ ?_ | refine Q_pick _ _ _ ?_ | refine Q_not _ _ ?_ | refine Q_neg _ _ ?_ | refine Q_extract _ _ ?_ | refine R_alloc _ ?_ | refine Q_store _ _ _ ?_ | refine Q_build _ _ ?_ | refine Q_buildArr _ _ ?_ | refine Q_convert _ _ _ ?_ | refine Q_eqAgg _ _ _ _ ?_ | refine Q_neqAgg _ _ _ _ ?_ | refine Q_neqSelf _ _ _ _ ?_ | refine Q_bin _ _ _ _ _ ?_)
       simp (dsimp := false) (disch := first | exact vD | fail) only [push_cast, List.reduceReplicate, Nat.reduceAdd, Nat.reduceMul, Nat.reduceSub, Nat.reduceEqDiff, Nat.reduceLT, Nat.reduceLeDiff, Nat.reduceBEq, Int.reduceToNat, Int.reduceEq, Int.reduceLT, Int.reduceLE, Int.reduceAdd, Int.reduceSub, Int.reduceMul, ↓reduceIte, reduceCtorEq, n0]
       (repeat (refine aI ?_)); (first | refine hK _ _ _ ?_ | refine hK _ _ ?_); clear hK K)
    | ((first | refine AL_go rfl (fun K hK => ?_) | refine AL_go0 (fun K hK => ?_))
       (first | refine Q_eqnil _ _ _ _ ?_ | refine Q_neqnil _ _ _ _ ?_)
       simp (dsimp := false) (disch := first | exact vD | fail) only [push_cast, List.reduceReplicate, Nat.reduceAdd, Nat.reduceMul, Nat.reduceSub, Nat.reduceEqDiff, Nat.reduceLT, Nat.reduceLeDiff, Nat.reduceBEq, Int.reduceToNat, Int.reduceEq, Int.reduceLT, Int.reduceLE, Int.reduceAdd, Int.reduceSub, Int.reduceMul, ↓reduceIte, reduceCtorEq, n0]
       (repeat (refine aI ?_)); (first | refine hK _ _ _ ?_ | refine hK _ _ ?_); clear hK K)
    | ((first | refine AL_guard rfl rfl (fun K1 K2 h1 h2 => ?_) rfl | refine AC_cond_k (fun K1 K2 h1 h2 => ?_))
       simp (dsimp := false) (disch := first | exact vD | fail) only [push_cast, List.reduceReplicate, Nat.reduceAdd, Nat.reduceMul, Nat.reduceSub, Nat.reduceEqDiff, Nat.reduceLT, Nat.reduceLeDiff, Nat.reduceBEq, Int.reduceToNat, Int.reduceEq, Int.reduceLT, Int.reduceLE, Int.reduceAdd, Int.reduceSub, Int.reduceMul, ↓reduceIte, reduceCtorEq, n0]
       first | (refine ⟨fun hc => ?_, fun hc => ?_⟩ <;> first | (exfalso; omega) | (exfalso; contradiction) | refine h1 ?_ | refine h2 ?_) | refine h1 ?_ | refine h2 ?_
       all_goals clear h1 h2 K1 K2)
    | (refine AL_nil ?_) | (refine Thn_normal ?_) | (refine Thn_ret ?_) | (refine Thn_exit ?_) | (refine Blk_normal ?_) | (refine Blk_ret ?_) | (refine Blk_here ?_) | (refine Blk_other rfl ?_) | (refine AC_block ?_) | (refine AC_exit ?_) | (refine AC_skip ?_) | (refine AC_ret ?_))
  all_goals (refine Ends.mk2 (by first | exact .inr rfl | exact .inl rfl) [] ?_; simp (dsimp := false) (disch := first | exact vD | fail) only [push_cast, List.reduceReplicate, Nat.reduceAdd, Nat.reduceMul, Nat.reduceSub, Nat.reduceEqDiff, Nat.reduceLT, Nat.reduceLeDiff, Nat.reduceBEq, Int.reduceToNat, Int.reduceEq, Int.reduceLT, Int.reduceLE, Int.reduceAdd, Int.reduceSub, Int.reduceMul, ↓reduceIte, reduceCtorEq, Try.f3]; (repeat (refine aI ?_)); try (first | exact vI | fail))
theorem order_law (hl2 : ys.length < 2^47) (hy : ∀ y ∈ ys, 0 ≤ y ∧ y ≤ 255) : ACall Try.prog 3 [.isl z (cI .u8 ys) ys.length] [] 0 (.val (.bool true)) [] := by
  rcases Nat.lt_or_ge 60 ys.length with h | h
  · exact order_big hl2 h
  · rcases Nat.eq_zero_or_pos ys.length with h0 | h0
    · rw [List.length_eq_zero_iff.1 h0]; exact order_nil
    · exact order_ok h h0 hy
end Go.Proofs.Ytphpjgfhdoobjaa
