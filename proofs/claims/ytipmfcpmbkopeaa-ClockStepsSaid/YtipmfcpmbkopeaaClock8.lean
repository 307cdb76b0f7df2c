/- The clock: queues behind operations. No condition. -/
import Derived.Test.YtipmfcpmbkopeaaClock7
set_option linter.unusedVariables false
set_option linter.unusedSectionVars false
set_option linter.unusedSimpArgs false
set_option maxHeartbeats 1000000
set_option maxRecDepth 20000
namespace Go.Proofs.Ytipmfcpmbkopeaa
open Go Go.Sy
attribute [local irreducible] AO AL AC OpT ACall Ends DGo DRun Thn Blk Nxt
variable {l m : List Tm} {now a b : Int} {i j n : Nat} {z z2 : Bool}

structure Qs where
  now : Int
  l : List Tm
  zp : Bool
  zr : Bool
def stepQ (s : Qs) (o : OpC) : Qs :=
  if o.kind % 4 = 0 then ⟨s.now, an s.now s.l (atO s.now o) o.id, if ae s.now s.l (atO s.now o) = 0 then false else s.zp, if ae s.now s.l (atO s.now o) = 0 then false else s.zr⟩
  else if o.kind % 4 = 1 then ⟨s.now, cn s.l o.id, s.zp, if cx s.l o.id = -1 then s.zr else false⟩
  else if o.kind % 4 = 2 then ⟨nn s.now s.l, s.l.drop 1, s.zp, if s.l.length = 0 then s.zr else false⟩
  else ⟨adt s.now (atO s.now o), s.l.drop (ad s.now s.l (atO s.now o)), s.zp, zj s.zr (ad s.now s.l (atO s.now o))⟩
def okT (t : Tm) : Prop := 0 ≤ t.at' ∧ t.at' ≤ 1099511627776
def okS (s : Qs) : Prop := s.l.length ≤ 1000 ∧ 0 ≤ s.now ∧ s.now ≤ 1099511627776 ∧ (s.zp = true → s.l = []) ∧ ∀ t ∈ s.l, okT t
theorem perr_range (h : perr now a = 0) : 0 ≤ a ∧ a ≤ 1099511627776 ∧ now ≤ a := by
  unfold perr at h
  split at h
  · cases h
  · split at h
    · cases h
    · omega
theorem an_nil (h : ae now [] a = 0) : an now [] a b = [⟨a, b⟩] := by unfold an; rw [if_pos h]; rfl
theorem ae_nil : ae now [] a = perr now a := by unfold ae; split; (rename_i h; rw [h]; rfl); rfl
theorem mem_an {t : Tm} (ht : t ∈ an now l a b) : t ∈ l ∨ (t = ⟨a, b⟩ ∧ perr now a = 0) := by
  unfold an at ht
  split at ht
  · rename_i h
    unfold ins at ht
    have hp : perr now a = 0 := by unfold ae at h; split at h; assumption; exact h
    rcases List.mem_append.1 ht with ht | ht
    · exact .inl (List.mem_of_mem_take ht)
    · rcases List.mem_cons.1 ht with ht | ht
      · exact .inr ⟨ht, hp⟩
      · exact .inl (List.mem_of_mem_drop ht)
  · exact .inl ht
theorem an_len (h : l.length ≤ 1000) : (an now l a b).length ≤ 1000 := by
  unfold an
  split
  · rename_i h2
    have : l.length ≠ 1000 := by
      intro e; unfold ae at h2; rw [if_pos e] at h2; split at h2 <;> omega
    rw [ins_len]; omega
  · exact h
theorem mem_cn {t : Tm} (ht : t ∈ cn l b) : t ∈ l := by
  unfold cn at ht
  split at ht
  · exact ht
  · rcases List.mem_append.1 ht with ht | ht
    · exact List.mem_of_mem_take ht
    · exact List.mem_of_mem_drop ht
theorem cn_nil : cn [] b = [] := rfl
theorem stepQ_ok {s : Qs} {o : OpC} (h : okS s) : okS (stepQ s o) := by
  obtain ⟨h1, h2, h3, h4, h5⟩ := h
  unfold stepQ
  split
  · refine ⟨an_len h1, h2, h3, fun hz => ?_, fun t ht => ?_⟩
    · show an _ _ _ _ = _
      dsimp only at hz
      split at hz
      · cases hz
      · rename_i hne
        unfold an; rw [if_neg hne]; exact h4 hz
    · rcases mem_an ht with ht | ⟨rfl, hp⟩
      · exact h5 t ht
      · have := perr_range hp; exact ⟨this.1, this.2.1⟩
  · split
    · exact ⟨Nat.le_trans cn_len h1, h2, h3, fun hz => by rw [show s.l = [] from h4 hz]; rfl, fun t ht => h5 t (mem_cn ht)⟩
    · split
      · have hnn : 0 ≤ nn s.now s.l ∧ nn s.now s.l ≤ 1099511627776 := by
          unfold nn
          cases hl : s.l with
          | nil => exact ⟨h2, h3⟩
          | cons t l => exact h5 t (by rw [hl]; exact List.mem_cons_self)
        exact ⟨by simp; omega, hnn.1, hnn.2, fun hz => by rw [show s.l = [] from h4 hz]; rfl, fun t ht => h5 t (List.mem_of_mem_drop ht)⟩
      · have hnn : 0 ≤ adt s.now (atO s.now o) ∧ adt s.now (atO s.now o) ≤ 1099511627776 := by
          unfold adt
          split
          · rename_i hp; have := perr_range hp; exact ⟨this.1, this.2.1⟩
          · exact ⟨h2, h3⟩
        exact ⟨by simp; omega, hnn.1, hnn.2, fun hz => by rw [show s.l = [] from h4 hz]; exact List.drop_nil, fun t ht => h5 t (List.mem_of_mem_drop ht)⟩
theorem stepQ_zp {s : Qs} {o : OpC} (h : s.zp = false) : (stepQ s o).zp = false := by
  unfold stepQ
  split
  · show (if _ then false else s.zp) = false
    rw [h]; split <;> rfl
  · split
    · exact h
    · split <;> exact h

theorem step_ff {s : Qs} {o : OpC} (h : okS s) (ho : okC o) (hz : s.zp = false) : ACall Try.prog 27 [.pt 0 0, rQ s.zr s.now s.l, opV o] (q1 s.now s.l) 1
    (.tup [rQ (stepQ s o).zr (stepQ s o).now (stepQ s o).l, .val (.bool true)]) (q1 (stepQ s o).now (stepQ s o).l) := by
  obtain ⟨h1, h2, h3, h4, h5⟩ := h
  unfold stepQ
  split
  · rename_i hk; exact st_add h1 h2 h3 ho hk
  · split
    · rename_i hk; exact (st_can h1 h2 h3 ho hk).le (by decide)
    · split
      · rename_i hk; exact (st_next h1 h2 h3 ho hk).le (by decide)
      · exact (st_adv h1 h2 h3 ho (by omega)).le (by decide)
theorem step_tf {s : Qs} {o : OpC} (h : okS s) (ho : okC o) (hz : s.zp = true) (hz2 : (stepQ s o).zp = false) : ACall Try.prog 27 [.pt 0 0, rQ s.zr s.now s.l, opV o] (q0 s.now) 1
    (.tup [rQ (stepQ s o).zr (stepQ s o).now (stepQ s o).l, .val (.bool true)]) (q1 (stepQ s o).now (stepQ s o).l) := by
  obtain ⟨h1, h2, h3, h4, h5⟩ := h
  have hl : s.l = [] := h4 hz
  unfold stepQ at hz2 ⊢
  split
  · rename_i hk
    rw [if_pos hk] at hz2
    rw [hl] at hz2 ⊢
    dsimp only at hz2 ⊢
    split at hz2
    · rename_i he
      rw [if_pos he, an_nil he]
      rw [ae_nil] at he
      exact st_add0 h2 h3 ho hk he
    · rw [hz] at hz2; cases hz2
  · rename_i hk
    rw [if_neg hk] at hz2
    exfalso
    split at hz2
    · rw [hz] at hz2; cases hz2
    · split at hz2 <;> (rw [hz] at hz2; cases hz2)
theorem step_tt {s : Qs} {o : OpC} (h : okS s) (ho : okC o) (hz : s.zp = true) (hz2 : (stepQ s o).zp = true) : ACall Try.prog 27 [.pt 0 0, rQ s.zr s.now s.l, opV o] (q0 s.now) 1
    (.tup [rQ (stepQ s o).zr (stepQ s o).now (stepQ s o).l, .val (.bool true)]) (q0 (stepQ s o).now) := by
  obtain ⟨h1, h2, h3, h4, h5⟩ := h
  have hl : s.l = [] := h4 hz
  unfold stepQ at hz2 ⊢
  split
  · rename_i hk
    rw [if_pos hk] at hz2
    rw [hl] at hz2 ⊢
    dsimp only at hz2 ⊢
    split at hz2
    · cases hz2
    · rename_i he
      rw [if_neg he]
      have ea : an s.now [] (atO s.now o) o.id = [] := by unfold an; rw [if_neg he]
      rw [ea]
      rw [ae_nil] at he
      exact st_add0e h2 h3 ho hk he
  · split
    · rename_i hk; rw [hl]; exact st_can0 h2 h3 ho hk
    · split
      · rename_i hk; rw [hl]; exact st_next0 h2 h3 ho hk
      · rw [hl]
        have e : ad s.now [] (atO s.now o) = 0 := by unfold ad; split <;> rfl
        rw [e]
        exact st_adv0 h2 h3 ho (by omega)

def runQ (l : List OpC) : Nat → Qs
  | 0 => ⟨0, [], true, true⟩
  | k + 1 => stepQ (runQ l k) (l.getD k default)
theorem runQ_ok {l : List OpC} (k : Nat) : okS (runQ l k) := by
  induction k with
  | zero => exact ⟨Nat.zero_le _, Int.le_refl _, (by decide : (0 : Int) ≤ 1099511627776), fun _ => rfl, fun t ht => by cases ht⟩
  | succ k ih => exact stepQ_ok ih
theorem op_at {l : List OpC} (h : ∀ o ∈ l, okC o) (j : Nat) : okC (l.getD j default) := by
  rw [List.getD_eq_getElem?_getD]
  by_cases hj : j < l.length
  · rw [List.getElem?_eq_getElem hj]; exact h _ (List.getElem_mem hj)
  · rw [List.getElem?_eq_none (by omega)]
    show okC (⟨0, 0, 0, false⟩ : OpC)
    exact ⟨by decide, by decide, by decide, by decide, by decide, by decide⟩
def tsl (z : Bool) (id n : Nat) : AV := if z then .isl true [] 0 else .sl id 0 n 2
def tob (z : Bool) (id : Nat) (l : List Tm) : List (Nat × Option AObj) := if z then [] else [(id, some (.cells (cR l) 36))]
theorem tsl_t {id : Nat} (h : z = true) : tsl z id n = .isl true [] 0 := by rw [tsl, if_pos h]
theorem tsl_f {id : Nat} (h : z = false) : tsl z id n = .sl id 0 n 2 := by rw [tsl, h]; rfl
theorem tob_t {id : Nat} (h : z = true) : tob z id l = [] := by rw [tob, if_pos h]
theorem tob_f {id : Nat} (h : z = false) : tob z id l = [(id, some (.cells (cR l) 36))] := by rw [tob, h]; rfl
def madeI (z : Bool) (l : List OpC) (j : {j : Nat // j ≤ l.length}) : St :=
  ⟨36, 0, [(3,.pt 0 0), (5,.pt 1 0), (6,.pt 2 0), (16,.isl z (cR l) l.length), (17,.val (.int .i64 l.length)), (18,.val (.int .i64 j.val))],
   [(0, some (.cells [.val (.int .i64 0), .isl true [] 0] 27)), (1, some (.cells [.val (.int .i64 (runQ l j.val).now), tsl (runQ l j.val).zp 3 (runQ l j.val).l.length] 63)),
    (2, some (.cells [.val (.int .i64 (runQ l j.val).now), .isl (runQ l j.val).zr (cR (runQ l j.val).l) (runQ l j.val).l.length] 27))] ++ tob (runQ l j.val).zp 3 (runQ l j.val).l⟩
theorem run_0 {l : List OpC} : runQ l 0 = ⟨0, [], true, true⟩ := rfl
theorem run_s {l : List OpC} {k : Nat} : runQ l (k + 1) = stepQ (runQ l k) (l.getD k default) := rfl
theorem made_t {l : List OpC} (hl : l.length < 2^45) (ho : ∀ o ∈ l, okC o) (hz : (runQ l l.length).zp = true) : ACall Try.prog 12 [.isl z (cR l) l.length] [] 0
    (.tup [.pt 0 0, rQ (runQ l l.length).zr (runQ l l.length).now (runQ l l.length).l, .val (.bool true)]) (q0 (runQ l l.length).now) := by
  refine ACall.enter Try.func12 rfl (by simp [Try.ntmps12]) (by simp) ?_
  simp only [entry, idx, Try.ntmps12, List.length, List.map_cons, List.map_nil, List.append_nil, List.cons_append, List.nil_append, Nat.reduceAdd, Nat.zero_add, List.length_cons, List.length_nil]
  repeat' (first
    | (refine AC_loop_id ?_; refine AC_loop' [0,1,2,9] ([0,1,2,9].length) (madeI z l) (fun j => l.length - j.val) (⟨0, by omega⟩) rfl (by unfold madeI; (try simp only [List.cons_append, List.nil_append]); refine Sub.mk2 ?_; (simp (dsimp := false) (disch := first | omega | assumption | (simp only [List.length_cons, List.length_nil, Go.Sy.cS_len, Go.Sy.cB_len, Go.Sy.cI_len, List.length_replicate, List.length_map, List.length_append, List.length_set, List.length_take, List.length_drop, Go.Sy.splR_length]; done) | (simp only [List.length_cons, List.length_nil, Go.Sy.cS_len, Go.Sy.cB_len, Go.Sy.cI_len, List.length_replicate, List.length_map, List.length_append, List.length_set, List.length_take, List.length_drop, Go.Sy.splR_length]; omega)) only [push_cast, List.reduceReplicate, Nat.reduceAdd, Nat.reduceMul, Nat.reduceSub, Nat.reduceEqDiff, Nat.reduceLT, Nat.reduceLeDiff, Nat.reduceBEq, Int.reduceToNat, Int.reduceEq, Int.reduceLT, Int.reduceLE, Int.reduceAdd, Int.reduceSub, Int.reduceMul, ↓reduceIte, reduceCtorEq, q0, q1, rQ, run_0, run_s, tsl_t, tsl_f, tob_t, tob_f]); (repeat (refine And.intro (by (first | omega | assumption | ((try clear hK); first | (simp; done) | (simp; omega) | (simp_all; done) | ((try simp); split <;> first | omega | (simp_all; done) | (simp_all; omega))))) ?_)); (first | done | (first | omega | assumption | ((try clear hK); first | (simp; done) | (simp; omega) | (simp_all; done) | ((try simp); split <;> first | omega | (simp_all; done) | (simp_all; omega))))); done) ?_; (rintro ⟨j, hj⟩; have hr := runQ_ok (l := l) j; have hoj := op_at ho j; cases hz1 : (runQ l j).zp <;> cases hz2 : (stepQ (runQ l j) (l.getD j default)).zp <;> first | (exact absurd ((stepQ_zp hz1).symm.trans hz2) (by decide)) | (simp (dsimp := false) (disch := first | omega | assumption | (simp only [List.length_cons, List.length_nil, Go.Sy.cS_len, Go.Sy.cB_len, Go.Sy.cI_len, List.length_replicate, List.length_map, List.length_append, List.length_set, List.length_take, List.length_drop, Go.Sy.splR_length]; done) | (simp only [List.length_cons, List.length_nil, Go.Sy.cS_len, Go.Sy.cB_len, Go.Sy.cI_len, List.length_replicate, List.length_map, List.length_append, List.length_set, List.length_take, List.length_drop, Go.Sy.splR_length]; omega)) only [push_cast, List.reduceReplicate, Nat.reduceAdd, Nat.reduceMul, Nat.reduceSub, Nat.reduceEqDiff, Nat.reduceLT, Nat.reduceLeDiff, Nat.reduceBEq, Int.reduceToNat, Int.reduceEq, Int.reduceLT, Int.reduceLE, Int.reduceAdd, Int.reduceSub, Int.reduceMul, ↓reduceIte, reduceCtorEq, madeI, tsl_t, tsl_f, tob_t, tob_f])))
    | (refine Nxt_id ?_; refine Nxt.mk [0,1,2,5] (⟨j + 1, by omega⟩) rfl (by unfold madeI; (try simp only [List.cons_append, List.nil_append]); refine Sub.mk2 ?_; (simp (dsimp := false) (disch := first | omega | assumption | (simp only [List.length_cons, List.length_nil, Go.Sy.cS_len, Go.Sy.cB_len, Go.Sy.cI_len, List.length_replicate, List.length_map, List.length_append, List.length_set, List.length_take, List.length_drop, Go.Sy.splR_length]; done) | (simp only [List.length_cons, List.length_nil, Go.Sy.cS_len, Go.Sy.cB_len, Go.Sy.cI_len, List.length_replicate, List.length_map, List.length_append, List.length_set, List.length_take, List.length_drop, Go.Sy.splR_length]; omega)) only [push_cast, List.reduceReplicate, Nat.reduceAdd, Nat.reduceMul, Nat.reduceSub, Nat.reduceEqDiff, Nat.reduceLT, Nat.reduceLeDiff, Nat.reduceBEq, Int.reduceToNat, Int.reduceEq, Int.reduceLT, Int.reduceLE, Int.reduceAdd, Int.reduceSub, Int.reduceMul, ↓reduceIte, reduceCtorEq, q0, q1, rQ, run_0, run_s, tsl_t, tsl_f, tob_t, tob_f]); (repeat (refine And.intro (by (first | omega | assumption | ((try clear hK); first | (simp; done) | (simp; omega) | (simp_all; done) | ((try simp); split <;> first | omega | (simp_all; done) | (simp_all; omega))))) ?_)); (first | done | (first | omega | assumption | ((try clear hK); first | (simp; done) | (simp; omega) | (simp_all; done) | ((try simp); split <;> first | omega | (simp_all; done) | (simp_all; omega))))); done) (by first | omega | (simp; omega)))
    | (refine Nxt_id ?_; refine Nxt.mk [0,1,2,9] (⟨j + 1, by omega⟩) rfl (by unfold madeI; (try simp only [List.cons_append, List.nil_append]); refine Sub.mk2 ?_; (simp (dsimp := false) (disch := first | omega | assumption | (simp only [List.length_cons, List.length_nil, Go.Sy.cS_len, Go.Sy.cB_len, Go.Sy.cI_len, List.length_replicate, List.length_map, List.length_append, List.length_set, List.length_take, List.length_drop, Go.Sy.splR_length]; done) | (simp only [List.length_cons, List.length_nil, Go.Sy.cS_len, Go.Sy.cB_len, Go.Sy.cI_len, List.length_replicate, List.length_map, List.length_append, List.length_set, List.length_take, List.length_drop, Go.Sy.splR_length]; omega)) only [push_cast, List.reduceReplicate, Nat.reduceAdd, Nat.reduceMul, Nat.reduceSub, Nat.reduceEqDiff, Nat.reduceLT, Nat.reduceLeDiff, Nat.reduceBEq, Int.reduceToNat, Int.reduceEq, Int.reduceLT, Int.reduceLE, Int.reduceAdd, Int.reduceSub, Int.reduceMul, ↓reduceIte, reduceCtorEq, q0, q1, rQ, run_0, run_s, tsl_t, tsl_f, tob_t, tob_f]); (repeat (refine And.intro (by (first | omega | assumption | ((try clear hK); first | (simp; done) | (simp; omega) | (simp_all; done) | ((try simp); split <;> first | omega | (simp_all; done) | (simp_all; omega))))) ?_)); (first | done | (first | omega | assumption | ((try clear hK); first | (simp; done) | (simp; omega) | (simp_all; done) | ((try simp); split <;> first | omega | (simp_all; done) | (simp_all; omega))))); done) (by first | omega | (simp; omega)))
    | (refine AC_seq ?_)
    | (refine AC_region_lit ?_)
    | ((first | refine AL_go rfl (fun K hK => ?_) | refine AL_go0 (fun K hK => ?_) | refine DG_run (fun K hK => ?_))
       (first | refine R_callG (f := 26) [] 0 false ?_)
       simp (dsimp := false) (disch := first | omega | assumption | (simp only [List.length_cons, List.length_nil, Go.Sy.cS_len, Go.Sy.cB_len, Go.Sy.cI_len, List.length_replicate, List.length_map, List.length_append, List.length_set, List.length_take, List.length_drop, Go.Sy.splR_length]; done) | (simp only [List.length_cons, List.length_nil, Go.Sy.cS_len, Go.Sy.cB_len, Go.Sy.cI_len, List.length_replicate, List.length_map, List.length_append, List.length_set, List.length_take, List.length_drop, Go.Sy.splR_length]; omega)) only [push_cast, List.reduceReplicate, Nat.reduceAdd, Nat.reduceMul, Nat.reduceSub, Nat.reduceEqDiff, Nat.reduceLT, Nat.reduceLeDiff, Nat.reduceBEq, Int.reduceToNat, Int.reduceEq, Int.reduceLT, Int.reduceLE, Int.reduceAdd, Int.reduceSub, Int.reduceMul, ↓reduceIte, reduceCtorEq, q0, q1, rQ, run_0, run_s, tsl_t, tsl_f, tob_t, tob_f]
       (repeat (refine And.intro (by (first | omega | assumption | ((try clear hK); first | (simp; done) | (simp; omega) | (simp_all; done) | ((try simp); split <;> first | omega | (simp_all; done) | (simp_all; omega))))) ?_)); intro G hG; refine hG _ _ ?_; clear hG G
       (first | refine ⟨_, _, new_ok, ?_⟩)
       simp (dsimp := false) (disch := first | omega | assumption | (simp only [List.length_cons, List.length_nil, Go.Sy.cS_len, Go.Sy.cB_len, Go.Sy.cI_len, List.length_replicate, List.length_map, List.length_append, List.length_set, List.length_take, List.length_drop, Go.Sy.splR_length]; done) | (simp only [List.length_cons, List.length_nil, Go.Sy.cS_len, Go.Sy.cB_len, Go.Sy.cI_len, List.length_replicate, List.length_map, List.length_append, List.length_set, List.length_take, List.length_drop, Go.Sy.splR_length]; omega)) only [push_cast, List.reduceReplicate, Nat.reduceAdd, Nat.reduceMul, Nat.reduceSub, Nat.reduceEqDiff, Nat.reduceLT, Nat.reduceLeDiff, Nat.reduceBEq, Int.reduceToNat, Int.reduceEq, Int.reduceLT, Int.reduceLE, Int.reduceAdd, Int.reduceSub, Int.reduceMul, ↓reduceIte, reduceCtorEq, q0, q1, rQ, run_0, run_s, tsl_t, tsl_f, tob_t, tob_f]
       (repeat (refine And.intro (by (first | omega | assumption | ((try clear hK); first | (simp; done) | (simp; omega) | (simp_all; done) | ((try simp); split <;> first | omega | (simp_all; done) | (simp_all; omega))))) ?_)); (first | refine hK _ _ _ ?_ | refine hK _ _ ?_); clear hK K)
    | ((first | refine AL_go rfl (fun K hK => ?_) | refine AL_go0 (fun K hK => ?_) | refine DG_run (fun K hK => ?_))
       (first
        | (refine R_callG (f := 27) [1] 1 false ?_
           simp (dsimp := false) (disch := first | omega | assumption | (simp only [List.length_cons, List.length_nil, Go.Sy.cS_len, Go.Sy.cB_len, Go.Sy.cI_len, List.length_replicate, List.length_map, List.length_append, List.length_set, List.length_take, List.length_drop, Go.Sy.splR_length]; done) | (simp only [List.length_cons, List.length_nil, Go.Sy.cS_len, Go.Sy.cB_len, Go.Sy.cI_len, List.length_replicate, List.length_map, List.length_append, List.length_set, List.length_take, List.length_drop, Go.Sy.splR_length]; omega)) only [push_cast, List.reduceReplicate, Nat.reduceAdd, Nat.reduceMul, Nat.reduceSub, Nat.reduceEqDiff, Nat.reduceLT, Nat.reduceLeDiff, Nat.reduceBEq, Int.reduceToNat, Int.reduceEq, Int.reduceLT, Int.reduceLE, Int.reduceAdd, Int.reduceSub, Int.reduceMul, ↓reduceIte, reduceCtorEq, q0, q1, rQ, run_0, run_s, tsl_t, tsl_f, tob_t, tob_f]
           (repeat (refine And.intro (by (first | omega | assumption | ((try clear hK); first | (simp; done) | (simp; omega) | (simp_all; done) | ((try simp); split <;> first | omega | (simp_all; done) | (simp_all; omega))))) ?_)); intro G hG; refine hG _ _ ?_; clear hG G
           refine ⟨_, _, step_tt hr hoj hz1 hz2, ?_⟩
           simp (dsimp := false) (disch := first | omega | assumption | (simp only [List.length_cons, List.length_nil, Go.Sy.cS_len, Go.Sy.cB_len, Go.Sy.cI_len, List.length_replicate, List.length_map, List.length_append, List.length_set, List.length_take, List.length_drop, Go.Sy.splR_length]; done) | (simp only [List.length_cons, List.length_nil, Go.Sy.cS_len, Go.Sy.cB_len, Go.Sy.cI_len, List.length_replicate, List.length_map, List.length_append, List.length_set, List.length_take, List.length_drop, Go.Sy.splR_length]; omega)) only [push_cast, List.reduceReplicate, Nat.reduceAdd, Nat.reduceMul, Nat.reduceSub, Nat.reduceEqDiff, Nat.reduceLT, Nat.reduceLeDiff, Nat.reduceBEq, Int.reduceToNat, Int.reduceEq, Int.reduceLT, Int.reduceLE, Int.reduceAdd, Int.reduceSub, Int.reduceMul, ↓reduceIte, reduceCtorEq, q0, q1, rQ, run_0, run_s, tsl_t, tsl_f, tob_t, tob_f]
           (repeat (refine And.intro (by (first | omega | assumption | ((try clear hK); first | (simp; done) | (simp; omega) | (simp_all; done) | ((try simp); split <;> first | omega | (simp_all; done) | (simp_all; omega))))) ?_)); (first | refine hK _ _ _ ?_ | refine hK _ _ ?_); clear hK K)
        | (refine R_callG (f := 27) [1] 1 false ?_
           simp (dsimp := false) (disch := first | omega | assumption | (simp only [List.length_cons, List.length_nil, Go.Sy.cS_len, Go.Sy.cB_len, Go.Sy.cI_len, List.length_replicate, List.length_map, List.length_append, List.length_set, List.length_take, List.length_drop, Go.Sy.splR_length]; done) | (simp only [List.length_cons, List.length_nil, Go.Sy.cS_len, Go.Sy.cB_len, Go.Sy.cI_len, List.length_replicate, List.length_map, List.length_append, List.length_set, List.length_take, List.length_drop, Go.Sy.splR_length]; omega)) only [push_cast, List.reduceReplicate, Nat.reduceAdd, Nat.reduceMul, Nat.reduceSub, Nat.reduceEqDiff, Nat.reduceLT, Nat.reduceLeDiff, Nat.reduceBEq, Int.reduceToNat, Int.reduceEq, Int.reduceLT, Int.reduceLE, Int.reduceAdd, Int.reduceSub, Int.reduceMul, ↓reduceIte, reduceCtorEq, q0, q1, rQ, run_0, run_s, tsl_t, tsl_f, tob_t, tob_f]
           (repeat (refine And.intro (by (first | omega | assumption | ((try clear hK); first | (simp; done) | (simp; omega) | (simp_all; done) | ((try simp); split <;> first | omega | (simp_all; done) | (simp_all; omega))))) ?_)); intro G hG; refine hG _ _ ?_; clear hG G
           refine ⟨_, _, step_tf hr hoj hz1 hz2, ?_⟩
           simp (dsimp := false) (disch := first | omega | assumption | (simp only [List.length_cons, List.length_nil, Go.Sy.cS_len, Go.Sy.cB_len, Go.Sy.cI_len, List.length_replicate, List.length_map, List.length_append, List.length_set, List.length_take, List.length_drop, Go.Sy.splR_length]; done) | (simp only [List.length_cons, List.length_nil, Go.Sy.cS_len, Go.Sy.cB_len, Go.Sy.cI_len, List.length_replicate, List.length_map, List.length_append, List.length_set, List.length_take, List.length_drop, Go.Sy.splR_length]; omega)) only [push_cast, List.reduceReplicate, Nat.reduceAdd, Nat.reduceMul, Nat.reduceSub, Nat.reduceEqDiff, Nat.reduceLT, Nat.reduceLeDiff, Nat.reduceBEq, Int.reduceToNat, Int.reduceEq, Int.reduceLT, Int.reduceLE, Int.reduceAdd, Int.reduceSub, Int.reduceMul, ↓reduceIte, reduceCtorEq, q0, q1, rQ, run_0, run_s, tsl_t, tsl_f, tob_t, tob_f]
           (repeat (refine And.intro (by (first | omega | assumption | ((try clear hK); first | (simp; done) | (simp; omega) | (simp_all; done) | ((try simp); split <;> first | omega | (simp_all; done) | (simp_all; omega))))) ?_)); (first | refine hK _ _ _ ?_ | refine hK _ _ ?_); clear hK K)
        | (refine R_callG (f := 27) [1,3] 1 false ?_
           simp (dsimp := false) (disch := first | omega | assumption | (simp only [List.length_cons, List.length_nil, Go.Sy.cS_len, Go.Sy.cB_len, Go.Sy.cI_len, List.length_replicate, List.length_map, List.length_append, List.length_set, List.length_take, List.length_drop, Go.Sy.splR_length]; done) | (simp only [List.length_cons, List.length_nil, Go.Sy.cS_len, Go.Sy.cB_len, Go.Sy.cI_len, List.length_replicate, List.length_map, List.length_append, List.length_set, List.length_take, List.length_drop, Go.Sy.splR_length]; omega)) only [push_cast, List.reduceReplicate, Nat.reduceAdd, Nat.reduceMul, Nat.reduceSub, Nat.reduceEqDiff, Nat.reduceLT, Nat.reduceLeDiff, Nat.reduceBEq, Int.reduceToNat, Int.reduceEq, Int.reduceLT, Int.reduceLE, Int.reduceAdd, Int.reduceSub, Int.reduceMul, ↓reduceIte, reduceCtorEq, q0, q1, rQ, run_0, run_s, tsl_t, tsl_f, tob_t, tob_f]
           (repeat (refine And.intro (by (first | omega | assumption | ((try clear hK); first | (simp; done) | (simp; omega) | (simp_all; done) | ((try simp); split <;> first | omega | (simp_all; done) | (simp_all; omega))))) ?_)); intro G hG; refine hG _ _ ?_; clear hG G
           refine ⟨_, _, step_ff hr hoj hz1, ?_⟩
           simp (dsimp := false) (disch := first | omega | assumption | (simp only [List.length_cons, List.length_nil, Go.Sy.cS_len, Go.Sy.cB_len, Go.Sy.cI_len, List.length_replicate, List.length_map, List.length_append, List.length_set, List.length_take, List.length_drop, Go.Sy.splR_length]; done) | (simp only [List.length_cons, List.length_nil, Go.Sy.cS_len, Go.Sy.cB_len, Go.Sy.cI_len, List.length_replicate, List.length_map, List.length_append, List.length_set, List.length_take, List.length_drop, Go.Sy.splR_length]; omega)) only [push_cast, List.reduceReplicate, Nat.reduceAdd, Nat.reduceMul, Nat.reduceSub, Nat.reduceEqDiff, Nat.reduceLT, Nat.reduceLeDiff, Nat.reduceBEq, Int.reduceToNat, Int.reduceEq, Int.reduceLT, Int.reduceLE, Int.reduceAdd, Int.reduceSub, Int.reduceMul, ↓reduceIte, reduceCtorEq, q0, q1, rQ, run_0, run_s, tsl_t, tsl_f, tob_t, tob_f]
           (repeat (refine And.intro (by (first | omega | assumption | ((try clear hK); first | (simp; done) | (simp; omega) | (simp_all; done) | ((try simp); split <;> first | omega | (simp_all; done) | (simp_all; omega))))) ?_)); (first | refine hK _ _ _ ?_ | refine hK _ _ ?_); clear hK K)))
    | ((first | refine AL_go rfl (fun K hK => ?_) | refine AL_go0 (fun K hK => ?_) | refine DG_run (fun K hK => ?_))
       (first | refine R_move _ ?_ | refine R_assign _ ?_ | refine Q_load _ _ ?_ | refine Q_loadAgg _ _ ?_ | refine Q_indexAddr _ _ _ ?_ | refine Q_indexArr _ _ _ ?_ | refine Q_len _ _ ?_ | refine Q_lenStr _ _ ?_ | refine Q_not _ _ ?_ | refine Q_neg _ _ ?_ | refine Q_extract _ _ ?_ | refine R_alloc _ ?_ | refine Q_store _ _ _ ?_ | refine Q_build _ _ ?_ | refine Q_eqAgg _ _ _ _ ?_ | refine Q_neqAgg _ _ _ _ ?_ | refine Q_bin _ _ _ _ _ ?_)
       simp (dsimp := false) (disch := first | omega | assumption | (simp only [List.length_cons, List.length_nil, Go.Sy.cS_len, Go.Sy.cB_len, Go.Sy.cI_len, List.length_replicate, List.length_map, List.length_append, List.length_set, List.length_take, List.length_drop, Go.Sy.splR_length]; done) | (simp only [List.length_cons, List.length_nil, Go.Sy.cS_len, Go.Sy.cB_len, Go.Sy.cI_len, List.length_replicate, List.length_map, List.length_append, List.length_set, List.length_take, List.length_drop, Go.Sy.splR_length]; omega)) only [push_cast, List.reduceReplicate, Nat.reduceAdd, Nat.reduceMul, Nat.reduceSub, Nat.reduceEqDiff, Nat.reduceLT, Nat.reduceLeDiff, Nat.reduceBEq, Int.reduceToNat, Int.reduceEq, Int.reduceLT, Int.reduceLE, Int.reduceAdd, Int.reduceSub, Int.reduceMul, ↓reduceIte, reduceCtorEq, q0, q1, rQ, run_0, run_s, tsl_t, tsl_f, tob_t, tob_f]
       (repeat (refine And.intro (by (first | omega | assumption | ((try clear hK); first | (simp; done) | (simp; omega) | (simp_all; done) | ((try simp); split <;> first | omega | (simp_all; done) | (simp_all; omega))))) ?_)); (first | refine hK _ _ _ ?_ | refine hK _ _ ?_); clear hK K)
    | ((first | refine AL_go rfl (fun K hK => ?_) | refine AL_go0 (fun K hK => ?_) | refine DG_run (fun K hK => ?_))
       (first | refine Q_eqnil _ _ _ _ ?_ | refine Q_neqnil _ _ _ _ ?_)
       simp (dsimp := false) (disch := first | omega | assumption | (simp only [List.length_cons, List.length_nil, Go.Sy.cS_len, Go.Sy.cB_len, Go.Sy.cI_len, List.length_replicate, List.length_map, List.length_append, List.length_set, List.length_take, List.length_drop, Go.Sy.splR_length]; done) | (simp only [List.length_cons, List.length_nil, Go.Sy.cS_len, Go.Sy.cB_len, Go.Sy.cI_len, List.length_replicate, List.length_map, List.length_append, List.length_set, List.length_take, List.length_drop, Go.Sy.splR_length]; omega)) only [push_cast, List.reduceReplicate, Nat.reduceAdd, Nat.reduceMul, Nat.reduceSub, Nat.reduceEqDiff, Nat.reduceLT, Nat.reduceLeDiff, Nat.reduceBEq, Int.reduceToNat, Int.reduceEq, Int.reduceLT, Int.reduceLE, Int.reduceAdd, Int.reduceSub, Int.reduceMul, ↓reduceIte, reduceCtorEq, q0, q1, rQ, run_0, run_s, tsl_t, tsl_f, tob_t, tob_f]
       (repeat (refine And.intro (by (first | omega | assumption | ((try clear hK); first | (simp; done) | (simp; omega) | (simp_all; done) | ((try simp); split <;> first | omega | (simp_all; done) | (simp_all; omega))))) ?_)); (first | refine hK _ _ _ ?_ | refine hK _ _ ?_); clear hK K)
    | ((first | refine AL_guard rfl rfl (fun K1 K2 h1 h2 => ?_) rfl | refine AC_cond_k (fun K1 K2 h1 h2 => ?_) | refine DG_guard rfl rfl (fun K1 K2 h1 h2 => ?_))
       simp (dsimp := false) (disch := first | omega | assumption | (simp only [List.length_cons, List.length_nil, Go.Sy.cS_len, Go.Sy.cB_len, Go.Sy.cI_len, List.length_replicate, List.length_map, List.length_append, List.length_set, List.length_take, List.length_drop, Go.Sy.splR_length]; done) | (simp only [List.length_cons, List.length_nil, Go.Sy.cS_len, Go.Sy.cB_len, Go.Sy.cI_len, List.length_replicate, List.length_map, List.length_append, List.length_set, List.length_take, List.length_drop, Go.Sy.splR_length]; omega)) only [push_cast, List.reduceReplicate, Nat.reduceAdd, Nat.reduceMul, Nat.reduceSub, Nat.reduceEqDiff, Nat.reduceLT, Nat.reduceLeDiff, Nat.reduceBEq, Int.reduceToNat, Int.reduceEq, Int.reduceLT, Int.reduceLE, Int.reduceAdd, Int.reduceSub, Int.reduceMul, ↓reduceIte, reduceCtorEq, q0, q1, rQ, run_0, run_s, tsl_t, tsl_f, tob_t, tob_f]
       first | (refine ⟨fun hc => ?_, fun hc => ?_⟩ <;> first | (exfalso; omega) | (exfalso; contradiction) | (exfalso; (simp_all; done)) | refine h1 ?_ | refine h2 ?_) | refine h1 ?_ | refine h2 ?_
       all_goals clear h1 h2 K1 K2)
    | (refine AC_draw (id := 3) (by kernel_rfl) [⟨0, [], [2], [], [], 0⟩, ⟨1, [], [15], [], [], 0⟩, ⟨2, [0, 1], [], [], [3], 0⟩, ⟨3, [0, 1, 2], [], [], [], 0⟩] (by kernel_rfl) (by kernel_rfl) (by kernel_rfl) ?_)
    | (refine AC_draw (id := 9) (by kernel_rfl) [⟨0, [], [2], [], [], 0⟩, ⟨1, [], [31], [], [], 0⟩, ⟨2, [0, 1], [], [], [3], 0⟩, ⟨3, [0, 1, 2], [], [], [], 0⟩] (by kernel_rfl) (by kernel_rfl) (by kernel_rfl) ?_)
    | (refine AC_draw (id := 12) (by kernel_rfl) [⟨0, [], [35], [], [], 0⟩, ⟨1, [], [2, 34], [], [], 0⟩, ⟨2, [0], [35], [], [], 0⟩, ⟨3, [0, 1, 2], [], [], [3], 0⟩, ⟨4, [0, 1, 2, 3], [], [], [], 0⟩] (by kernel_rfl) (by kernel_rfl) (by kernel_rfl) ?_)
    | ((first | refine DG_next' (by kernel_rfl) (fun K hK => ?_) | refine DG_nil (by kernel_rfl) (fun K hK => ?_))
       simp only [↓Go.Sy.dsnE_some, ↓Go.Sy.dsnE_none, ↓Go.Sy.dsnE_nil, ↓Go.Sy.dsnO_snoc, ↓Go.Sy.dsnO_nil, ↓Go.Sy.nidAt_snoc, ↓Go.Sy.nidAt_nil, push_cast, Nat.reduceLeDiff, Nat.reduceSub, Nat.reduceBEq, Nat.reduceEqDiff, Nat.reduceAdd, Nat.reduceLT, ↓reduceIte, reduceCtorEq]
       refine hK _ _ _ ?_; clear hK K)
    | (refine DG_go ?_)
    | (refine AL_nil ?_) | (refine Thn_normal ?_) | (refine Thn_ret ?_) | (refine Thn_exit ?_) | (refine Blk_normal ?_) | (refine Blk_ret ?_) | (refine Blk_here ?_) | (refine Blk_other rfl ?_) | (refine AC_block ?_) | (refine AC_exit ?_) | (refine AC_skip ?_) | (refine AC_ret ?_))
  all_goals (have e : j = l.length := (by omega); subst e; first | (refine Ends.mk2 (by first | exact .inr rfl | exact .inl rfl) [1] ?_; simp (dsimp := false) (disch := first | omega | assumption | (simp only [List.length_cons, List.length_nil, Go.Sy.cS_len, Go.Sy.cB_len, Go.Sy.cI_len, List.length_replicate, List.length_map, List.length_append, List.length_set, List.length_take, List.length_drop, Go.Sy.splR_length]; done) | (simp only [List.length_cons, List.length_nil, Go.Sy.cS_len, Go.Sy.cB_len, Go.Sy.cI_len, List.length_replicate, List.length_map, List.length_append, List.length_set, List.length_take, List.length_drop, Go.Sy.splR_length]; omega)) only [push_cast, List.reduceReplicate, Nat.reduceAdd, Nat.reduceMul, Nat.reduceSub, Nat.reduceEqDiff, Nat.reduceLT, Nat.reduceLeDiff, Nat.reduceBEq, Int.reduceToNat, Int.reduceEq, Int.reduceLT, Int.reduceLE, Int.reduceAdd, Int.reduceSub, Int.reduceMul, ↓reduceIte, reduceCtorEq, Try.f12, q0, rQ, tsl_t, tsl_f]; (repeat (refine And.intro (by (first | omega | assumption | ((try clear hK); first | (simp; done) | (simp; omega) | (simp_all; done) | ((try simp); split <;> first | omega | (simp_all; done) | (simp_all; omega))))) ?_)); try (first | omega | assumption | ((try clear hK); first | (simp; done) | (simp; omega) | (simp_all; done) | ((try simp); split <;> first | omega | (simp_all; done) | (simp_all; omega))))) | (exfalso; rw [hz1] at hz; cases hz))
theorem made_f {l : List OpC} (hl : l.length < 2^45) (ho : ∀ o ∈ l, okC o) (hz : (runQ l l.length).zp = false) : ACall Try.prog 12 [.isl z (cR l) l.length] [] 0
    (.tup [.pt 0 0, rQ (runQ l l.length).zr (runQ l l.length).now (runQ l l.length).l, .val (.bool true)]) (q1 (runQ l l.length).now (runQ l l.length).l) := by
  refine ACall.enter Try.func12 rfl (by simp [Try.ntmps12]) (by simp) ?_
  simp only [entry, idx, Try.ntmps12, List.length, List.map_cons, List.map_nil, List.append_nil, List.cons_append, List.nil_append, Nat.reduceAdd, Nat.zero_add, List.length_cons, List.length_nil]
  repeat' (first
    | (refine AC_loop_id ?_; refine AC_loop' [0,1,2,9] ([0,1,2,9].length) (madeI z l) (fun j => l.length - j.val) (⟨0, by omega⟩) rfl (by unfold madeI; (try simp only [List.cons_append, List.nil_append]); refine Sub.mk2 ?_; (simp (dsimp := false) (disch := first | omega | assumption | (simp only [List.length_cons, List.length_nil, Go.Sy.cS_len, Go.Sy.cB_len, Go.Sy.cI_len, List.length_replicate, List.length_map, List.length_append, List.length_set, List.length_take, List.length_drop, Go.Sy.splR_length]; done) | (simp only [List.length_cons, List.length_nil, Go.Sy.cS_len, Go.Sy.cB_len, Go.Sy.cI_len, List.length_replicate, List.length_map, List.length_append, List.length_set, List.length_take, List.length_drop, Go.Sy.splR_length]; omega)) only [push_cast, List.reduceReplicate, Nat.reduceAdd, Nat.reduceMul, Nat.reduceSub, Nat.reduceEqDiff, Nat.reduceLT, Nat.reduceLeDiff, Nat.reduceBEq, Int.reduceToNat, Int.reduceEq, Int.reduceLT, Int.reduceLE, Int.reduceAdd, Int.reduceSub, Int.reduceMul, ↓reduceIte, reduceCtorEq, q0, q1, rQ, run_0, run_s, tsl_t, tsl_f, tob_t, tob_f]); (repeat (refine And.intro (by (first | omega | assumption | ((try clear hK); first | (simp; done) | (simp; omega) | (simp_all; done) | ((try simp); split <;> first | omega | (simp_all; done) | (simp_all; omega))))) ?_)); (first | done | (first | omega | assumption | ((try clear hK); first | (simp; done) | (simp; omega) | (simp_all; done) | ((try simp); split <;> first | omega | (simp_all; done) | (simp_all; omega))))); done) ?_; (rintro ⟨j, hj⟩; have hr := runQ_ok (l := l) j; have hoj := op_at ho j; cases hz1 : (runQ l j).zp <;> cases hz2 : (stepQ (runQ l j) (l.getD j default)).zp <;> first | (exact absurd ((stepQ_zp hz1).symm.trans hz2) (by decide)) | (simp (dsimp := false) (disch := first | omega | assumption | (simp only [List.length_cons, List.length_nil, Go.Sy.cS_len, Go.Sy.cB_len, Go.Sy.cI_len, List.length_replicate, List.length_map, List.length_append, List.length_set, List.length_take, List.length_drop, Go.Sy.splR_length]; done) | (simp only [List.length_cons, List.length_nil, Go.Sy.cS_len, Go.Sy.cB_len, Go.Sy.cI_len, List.length_replicate, List.length_map, List.length_append, List.length_set, List.length_take, List.length_drop, Go.Sy.splR_length]; omega)) only [push_cast, List.reduceReplicate, Nat.reduceAdd, Nat.reduceMul, Nat.reduceSub, Nat.reduceEqDiff, Nat.reduceLT, Nat.reduceLeDiff, Nat.reduceBEq, Int.reduceToNat, Int.reduceEq, Int.reduceLT, Int.reduceLE, Int.reduceAdd, Int.reduceSub, Int.reduceMul, ↓reduceIte, reduceCtorEq, madeI, tsl_t, tsl_f, tob_t, tob_f])))
    | (refine Nxt_id ?_; refine Nxt.mk [0,1,2,5] (⟨j + 1, by omega⟩) rfl (by unfold madeI; (try simp only [List.cons_append, List.nil_append]); refine Sub.mk2 ?_; (simp (dsimp := false) (disch := first | omega | assumption | (simp only [List.length_cons, List.length_nil, Go.Sy.cS_len, Go.Sy.cB_len, Go.Sy.cI_len, List.length_replicate, List.length_map, List.length_append, List.length_set, List.length_take, List.length_drop, Go.Sy.splR_length]; done) | (simp only [List.length_cons, List.length_nil, Go.Sy.cS_len, Go.Sy.cB_len, Go.Sy.cI_len, List.length_replicate, List.length_map, List.length_append, List.length_set, List.length_take, List.length_drop, Go.Sy.splR_length]; omega)) only [push_cast, List.reduceReplicate, Nat.reduceAdd, Nat.reduceMul, Nat.reduceSub, Nat.reduceEqDiff, Nat.reduceLT, Nat.reduceLeDiff, Nat.reduceBEq, Int.reduceToNat, Int.reduceEq, Int.reduceLT, Int.reduceLE, Int.reduceAdd, Int.reduceSub, Int.reduceMul, ↓reduceIte, reduceCtorEq, q0, q1, rQ, run_0, run_s, tsl_t, tsl_f, tob_t, tob_f]); (repeat (refine And.intro (by (first | omega | assumption | ((try clear hK); first | (simp; done) | (simp; omega) | (simp_all; done) | ((try simp); split <;> first | omega | (simp_all; done) | (simp_all; omega))))) ?_)); (first | done | (first | omega | assumption | ((try clear hK); first | (simp; done) | (simp; omega) | (simp_all; done) | ((try simp); split <;> first | omega | (simp_all; done) | (simp_all; omega))))); done) (by first | omega | (simp; omega)))
    | (refine Nxt_id ?_; refine Nxt.mk [0,1,2,9] (⟨j + 1, by omega⟩) rfl (by unfold madeI; (try simp only [List.cons_append, List.nil_append]); refine Sub.mk2 ?_; (simp (dsimp := false) (disch := first | omega | assumption | (simp only [List.length_cons, List.length_nil, Go.Sy.cS_len, Go.Sy.cB_len, Go.Sy.cI_len, List.length_replicate, List.length_map, List.length_append, List.length_set, List.length_take, List.length_drop, Go.Sy.splR_length]; done) | (simp only [List.length_cons, List.length_nil, Go.Sy.cS_len, Go.Sy.cB_len, Go.Sy.cI_len, List.length_replicate, List.length_map, List.length_append, List.length_set, List.length_take, List.length_drop, Go.Sy.splR_length]; omega)) only [push_cast, List.reduceReplicate, Nat.reduceAdd, Nat.reduceMul, Nat.reduceSub, Nat.reduceEqDiff, Nat.reduceLT, Nat.reduceLeDiff, Nat.reduceBEq, Int.reduceToNat, Int.reduceEq, Int.reduceLT, Int.reduceLE, Int.reduceAdd, Int.reduceSub, Int.reduceMul, ↓reduceIte, reduceCtorEq, q0, q1, rQ, run_0, run_s, tsl_t, tsl_f, tob_t, tob_f]); (repeat (refine And.intro (by (first | omega | assumption | ((try clear hK); first | (simp; done) | (simp; omega) | (simp_all; done) | ((try simp); split <;> first | omega | (simp_all; done) | (simp_all; omega))))) ?_)); (first | done | (first | omega | assumption | ((try clear hK); first | (simp; done) | (simp; omega) | (simp_all; done) | ((try simp); split <;> first | omega | (simp_all; done) | (simp_all; omega))))); done) (by first | omega | (simp; omega)))
    | (refine AC_seq ?_)
    | (refine AC_region_lit ?_)
    | ((first | refine AL_go rfl (fun K hK => ?_) | refine AL_go0 (fun K hK => ?_) | refine DG_run (fun K hK => ?_))
       (first | refine R_callG (f := 26) [] 0 false ?_)
       simp (dsimp := false) (disch := first | omega | assumption | (simp only [List.length_cons, List.length_nil, Go.Sy.cS_len, Go.Sy.cB_len, Go.Sy.cI_len, List.length_replicate, List.length_map, List.length_append, List.length_set, List.length_take, List.length_drop, Go.Sy.splR_length]; done) | (simp only [List.length_cons, List.length_nil, Go.Sy.cS_len, Go.Sy.cB_len, Go.Sy.cI_len, List.length_replicate, List.length_map, List.length_append, List.length_set, List.length_take, List.length_drop, Go.Sy.splR_length]; omega)) only [push_cast, List.reduceReplicate, Nat.reduceAdd, Nat.reduceMul, Nat.reduceSub, Nat.reduceEqDiff, Nat.reduceLT, Nat.reduceLeDiff, Nat.reduceBEq, Int.reduceToNat, Int.reduceEq, Int.reduceLT, Int.reduceLE, Int.reduceAdd, Int.reduceSub, Int.reduceMul, ↓reduceIte, reduceCtorEq, q0, q1, rQ, run_0, run_s, tsl_t, tsl_f, tob_t, tob_f]
       (repeat (refine And.intro (by (first | omega | assumption | ((try clear hK); first | (simp; done) | (simp; omega) | (simp_all; done) | ((try simp); split <;> first | omega | (simp_all; done) | (simp_all; omega))))) ?_)); intro G hG; refine hG _ _ ?_; clear hG G
       (first | refine ⟨_, _, new_ok, ?_⟩)
       simp (dsimp := false) (disch := first | omega | assumption | (simp only [List.length_cons, List.length_nil, Go.Sy.cS_len, Go.Sy.cB_len, Go.Sy.cI_len, List.length_replicate, List.length_map, List.length_append, List.length_set, List.length_take, List.length_drop, Go.Sy.splR_length]; done) | (simp only [List.length_cons, List.length_nil, Go.Sy.cS_len, Go.Sy.cB_len, Go.Sy.cI_len, List.length_replicate, List.length_map, List.length_append, List.length_set, List.length_take, List.length_drop, Go.Sy.splR_length]; omega)) only [push_cast, List.reduceReplicate, Nat.reduceAdd, Nat.reduceMul, Nat.reduceSub, Nat.reduceEqDiff, Nat.reduceLT, Nat.reduceLeDiff, Nat.reduceBEq, Int.reduceToNat, Int.reduceEq, Int.reduceLT, Int.reduceLE, Int.reduceAdd, Int.reduceSub, Int.reduceMul, ↓reduceIte, reduceCtorEq, q0, q1, rQ, run_0, run_s, tsl_t, tsl_f, tob_t, tob_f]
       (repeat (refine And.intro (by (first | omega | assumption | ((try clear hK); first | (simp; done) | (simp; omega) | (simp_all; done) | ((try simp); split <;> first | omega | (simp_all; done) | (simp_all; omega))))) ?_)); (first | refine hK _ _ _ ?_ | refine hK _ _ ?_); clear hK K)
    | ((first | refine AL_go rfl (fun K hK => ?_) | refine AL_go0 (fun K hK => ?_) | refine DG_run (fun K hK => ?_))
       (first
        | (refine R_callG (f := 27) [1] 1 false ?_
           simp (dsimp := false) (disch := first | omega | assumption | (simp only [List.length_cons, List.length_nil, Go.Sy.cS_len, Go.Sy.cB_len, Go.Sy.cI_len, List.length_replicate, List.length_map, List.length_append, List.length_set, List.length_take, List.length_drop, Go.Sy.splR_length]; done) | (simp only [List.length_cons, List.length_nil, Go.Sy.cS_len, Go.Sy.cB_len, Go.Sy.cI_len, List.length_replicate, List.length_map, List.length_append, List.length_set, List.length_take, List.length_drop, Go.Sy.splR_length]; omega)) only [push_cast, List.reduceReplicate, Nat.reduceAdd, Nat.reduceMul, Nat.reduceSub, Nat.reduceEqDiff, Nat.reduceLT, Nat.reduceLeDiff, Nat.reduceBEq, Int.reduceToNat, Int.reduceEq, Int.reduceLT, Int.reduceLE, Int.reduceAdd, Int.reduceSub, Int.reduceMul, ↓reduceIte, reduceCtorEq, q0, q1, rQ, run_0, run_s, tsl_t, tsl_f, tob_t, tob_f]
           (repeat (refine And.intro (by (first | omega | assumption | ((try clear hK); first | (simp; done) | (simp; omega) | (simp_all; done) | ((try simp); split <;> first | omega | (simp_all; done) | (simp_all; omega))))) ?_)); intro G hG; refine hG _ _ ?_; clear hG G
           refine ⟨_, _, step_tt hr hoj hz1 hz2, ?_⟩
           simp (dsimp := false) (disch := first | omega | assumption | (simp only [List.length_cons, List.length_nil, Go.Sy.cS_len, Go.Sy.cB_len, Go.Sy.cI_len, List.length_replicate, List.length_map, List.length_append, List.length_set, List.length_take, List.length_drop, Go.Sy.splR_length]; done) | (simp only [List.length_cons, List.length_nil, Go.Sy.cS_len, Go.Sy.cB_len, Go.Sy.cI_len, List.length_replicate, List.length_map, List.length_append, List.length_set, List.length_take, List.length_drop, Go.Sy.splR_length]; omega)) only [push_cast, List.reduceReplicate, Nat.reduceAdd, Nat.reduceMul, Nat.reduceSub, Nat.reduceEqDiff, Nat.reduceLT, Nat.reduceLeDiff, Nat.reduceBEq, Int.reduceToNat, Int.reduceEq, Int.reduceLT, Int.reduceLE, Int.reduceAdd, Int.reduceSub, Int.reduceMul, ↓reduceIte, reduceCtorEq, q0, q1, rQ, run_0, run_s, tsl_t, tsl_f, tob_t, tob_f]
           (repeat (refine And.intro (by (first | omega | assumption | ((try clear hK); first | (simp; done) | (simp; omega) | (simp_all; done) | ((try simp); split <;> first | omega | (simp_all; done) | (simp_all; omega))))) ?_)); (first | refine hK _ _ _ ?_ | refine hK _ _ ?_); clear hK K)
        | (refine R_callG (f := 27) [1] 1 false ?_
           simp (dsimp := false) (disch := first | omega | assumption | (simp only [List.length_cons, List.length_nil, Go.Sy.cS_len, Go.Sy.cB_len, Go.Sy.cI_len, List.length_replicate, List.length_map, List.length_append, List.length_set, List.length_take, List.length_drop, Go.Sy.splR_length]; done) | (simp only [List.length_cons, List.length_nil, Go.Sy.cS_len, Go.Sy.cB_len, Go.Sy.cI_len, List.length_replicate, List.length_map, List.length_append, List.length_set, List.length_take, List.length_drop, Go.Sy.splR_length]; omega)) only [push_cast, List.reduceReplicate, Nat.reduceAdd, Nat.reduceMul, Nat.reduceSub, Nat.reduceEqDiff, Nat.reduceLT, Nat.reduceLeDiff, Nat.reduceBEq, Int.reduceToNat, Int.reduceEq, Int.reduceLT, Int.reduceLE, Int.reduceAdd, Int.reduceSub, Int.reduceMul, ↓reduceIte, reduceCtorEq, q0, q1, rQ, run_0, run_s, tsl_t, tsl_f, tob_t, tob_f]
           (repeat (refine And.intro (by (first | omega | assumption | ((try clear hK); first | (simp; done) | (simp; omega) | (simp_all; done) | ((try simp); split <;> first | omega | (simp_all; done) | (simp_all; omega))))) ?_)); intro G hG; refine hG _ _ ?_; clear hG G
           refine ⟨_, _, step_tf hr hoj hz1 hz2, ?_⟩
           simp (dsimp := false) (disch := first | omega | assumption | (simp only [List.length_cons, List.length_nil, Go.Sy.cS_len, Go.Sy.cB_len, Go.Sy.cI_len, List.length_replicate, List.length_map, List.length_append, List.length_set, List.length_take, List.length_drop, Go.Sy.splR_length]; done) | (simp only [List.length_cons, List.length_nil, Go.Sy.cS_len, Go.Sy.cB_len, Go.Sy.cI_len, List.length_replicate, List.length_map, List.length_append, List.length_set, List.length_take, List.length_drop, Go.Sy.splR_length]; omega)) only [push_cast, List.reduceReplicate, Nat.reduceAdd, Nat.reduceMul, Nat.reduceSub, Nat.reduceEqDiff, Nat.reduceLT, Nat.reduceLeDiff, Nat.reduceBEq, Int.reduceToNat, Int.reduceEq, Int.reduceLT, Int.reduceLE, Int.reduceAdd, Int.reduceSub, Int.reduceMul, ↓reduceIte, reduceCtorEq, q0, q1, rQ, run_0, run_s, tsl_t, tsl_f, tob_t, tob_f]
           (repeat (refine And.intro (by (first | omega | assumption | ((try clear hK); first | (simp; done) | (simp; omega) | (simp_all; done) | ((try simp); split <;> first | omega | (simp_all; done) | (simp_all; omega))))) ?_)); (first | refine hK _ _ _ ?_ | refine hK _ _ ?_); clear hK K)
        | (refine R_callG (f := 27) [1,3] 1 false ?_
           simp (dsimp := false) (disch := first | omega | assumption | (simp only [List.length_cons, List.length_nil, Go.Sy.cS_len, Go.Sy.cB_len, Go.Sy.cI_len, List.length_replicate, List.length_map, List.length_append, List.length_set, List.length_take, List.length_drop, Go.Sy.splR_length]; done) | (simp only [List.length_cons, List.length_nil, Go.Sy.cS_len, Go.Sy.cB_len, Go.Sy.cI_len, List.length_replicate, List.length_map, List.length_append, List.length_set, List.length_take, List.length_drop, Go.Sy.splR_length]; omega)) only [push_cast, List.reduceReplicate, Nat.reduceAdd, Nat.reduceMul, Nat.reduceSub, Nat.reduceEqDiff, Nat.reduceLT, Nat.reduceLeDiff, Nat.reduceBEq, Int.reduceToNat, Int.reduceEq, Int.reduceLT, Int.reduceLE, Int.reduceAdd, Int.reduceSub, Int.reduceMul, ↓reduceIte, reduceCtorEq, q0, q1, rQ, run_0, run_s, tsl_t, tsl_f, tob_t, tob_f]
           (repeat (refine And.intro (by (first | omega | assumption | ((try clear hK); first | (simp; done) | (simp; omega) | (simp_all; done) | ((try simp); split <;> first | omega | (simp_all; done) | (simp_all; omega))))) ?_)); intro G hG; refine hG _ _ ?_; clear hG G
           refine ⟨_, _, step_ff hr hoj hz1, ?_⟩
           simp (dsimp := false) (disch := first | omega | assumption | (simp only [List.length_cons, List.length_nil, Go.Sy.cS_len, Go.Sy.cB_len, Go.Sy.cI_len, List.length_replicate, List.length_map, List.length_append, List.length_set, List.length_take, List.length_drop, Go.Sy.splR_length]; done) | (simp only [List.length_cons, List.length_nil, Go.Sy.cS_len, Go.Sy.cB_len, Go.Sy.cI_len, List.length_replicate, List.length_map, List.length_append, List.length_set, List.length_take, List.length_drop, Go.Sy.splR_length]; omega)) only [push_cast, List.reduceReplicate, Nat.reduceAdd, Nat.reduceMul, Nat.reduceSub, Nat.reduceEqDiff, Nat.reduceLT, Nat.reduceLeDiff, Nat.reduceBEq, Int.reduceToNat, Int.reduceEq, Int.reduceLT, Int.reduceLE, Int.reduceAdd, Int.reduceSub, Int.reduceMul, ↓reduceIte, reduceCtorEq, q0, q1, rQ, run_0, run_s, tsl_t, tsl_f, tob_t, tob_f]
           (repeat (refine And.intro (by (first | omega | assumption | ((try clear hK); first | (simp; done) | (simp; omega) | (simp_all; done) | ((try simp); split <;> first | omega | (simp_all; done) | (simp_all; omega))))) ?_)); (first | refine hK _ _ _ ?_ | refine hK _ _ ?_); clear hK K)))
    | ((first | refine AL_go rfl (fun K hK => ?_) | refine AL_go0 (fun K hK => ?_) | refine DG_run (fun K hK => ?_))
       (first | refine R_move _ ?_ | refine R_assign _ ?_ | refine Q_load _ _ ?_ | refine Q_loadAgg _ _ ?_ | refine Q_indexAddr _ _ _ ?_ | refine Q_indexArr _ _ _ ?_ | refine Q_len _ _ ?_ | refine Q_lenStr _ _ ?_ | refine Q_not _ _ ?_ | refine Q_neg _ _ ?_ | refine Q_extract _ _ ?_ | refine R_alloc _ ?_ | refine Q_store _ _ _ ?_ | refine Q_build _ _ ?_ | refine Q_eqAgg _ _ _ _ ?_ | refine Q_neqAgg _ _ _ _ ?_ | refine Q_bin _ _ _ _ _ ?_)
       simp (dsimp := false) (disch := first | omega | assumption | (simp only [List.length_cons, List.length_nil, Go.Sy.cS_len, Go.Sy.cB_len, Go.Sy.cI_len, List.length_replicate, List.length_map, List.length_append, List.length_set, List.length_take, List.length_drop, Go.Sy.splR_length]; done) | (simp only [List.length_cons, List.length_nil, Go.Sy.cS_len, Go.Sy.cB_len, Go.Sy.cI_len, List.length_replicate, List.length_map, List.length_append, List.length_set, List.length_take, List.length_drop, Go.Sy.splR_length]; omega)) only [push_cast, List.reduceReplicate, Nat.reduceAdd, Nat.reduceMul, Nat.reduceSub, Nat.reduceEqDiff, Nat.reduceLT, Nat.reduceLeDiff, Nat.reduceBEq, Int.reduceToNat, Int.reduceEq, Int.reduceLT, Int.reduceLE, Int.reduceAdd, Int.reduceSub, Int.reduceMul, ↓reduceIte, reduceCtorEq, q0, q1, rQ, run_0, run_s, tsl_t, tsl_f, tob_t, tob_f]
       (repeat (refine And.intro (by (first | omega | assumption | ((try clear hK); first | (simp; done) | (simp; omega) | (simp_all; done) | ((try simp); split <;> first | omega | (simp_all; done) | (simp_all; omega))))) ?_)); (first | refine hK _ _ _ ?_ | refine hK _ _ ?_); clear hK K)
    | ((first | refine AL_go rfl (fun K hK => ?_) | refine AL_go0 (fun K hK => ?_) | refine DG_run (fun K hK => ?_))
       (first | refine Q_eqnil _ _ _ _ ?_ | refine Q_neqnil _ _ _ _ ?_)
       simp (dsimp := false) (disch := first | omega | assumption | (simp only [List.length_cons, List.length_nil, Go.Sy.cS_len, Go.Sy.cB_len, Go.Sy.cI_len, List.length_replicate, List.length_map, List.length_append, List.length_set, List.length_take, List.length_drop, Go.Sy.splR_length]; done) | (simp only [List.length_cons, List.length_nil, Go.Sy.cS_len, Go.Sy.cB_len, Go.Sy.cI_len, List.length_replicate, List.length_map, List.length_append, List.length_set, List.length_take, List.length_drop, Go.Sy.splR_length]; omega)) only [push_cast, List.reduceReplicate, Nat.reduceAdd, Nat.reduceMul, Nat.reduceSub, Nat.reduceEqDiff, Nat.reduceLT, Nat.reduceLeDiff, Nat.reduceBEq, Int.reduceToNat, Int.reduceEq, Int.reduceLT, Int.reduceLE, Int.reduceAdd, Int.reduceSub, Int.reduceMul, ↓reduceIte, reduceCtorEq, q0, q1, rQ, run_0, run_s, tsl_t, tsl_f, tob_t, tob_f]
       (repeat (refine And.intro (by (first | omega | assumption | ((try clear hK); first | (simp; done) | (simp; omega) | (simp_all; done) | ((try simp); split <;> first | omega | (simp_all; done) | (simp_all; omega))))) ?_)); (first | refine hK _ _ _ ?_ | refine hK _ _ ?_); clear hK K)
    | ((first | refine AL_guard rfl rfl (fun K1 K2 h1 h2 => ?_) rfl | refine AC_cond_k (fun K1 K2 h1 h2 => ?_) | refine DG_guard rfl rfl (fun K1 K2 h1 h2 => ?_))
       simp (dsimp := false) (disch := first | omega | assumption | (simp only [List.length_cons, List.length_nil, Go.Sy.cS_len, Go.Sy.cB_len, Go.Sy.cI_len, List.length_replicate, List.length_map, List.length_append, List.length_set, List.length_take, List.length_drop, Go.Sy.splR_length]; done) | (simp only [List.length_cons, List.length_nil, Go.Sy.cS_len, Go.Sy.cB_len, Go.Sy.cI_len, List.length_replicate, List.length_map, List.length_append, List.length_set, List.length_take, List.length_drop, Go.Sy.splR_length]; omega)) only [push_cast, List.reduceReplicate, Nat.reduceAdd, Nat.reduceMul, Nat.reduceSub, Nat.reduceEqDiff, Nat.reduceLT, Nat.reduceLeDiff, Nat.reduceBEq, Int.reduceToNat, Int.reduceEq, Int.reduceLT, Int.reduceLE, Int.reduceAdd, Int.reduceSub, Int.reduceMul, ↓reduceIte, reduceCtorEq, q0, q1, rQ, run_0, run_s, tsl_t, tsl_f, tob_t, tob_f]
       first | (refine ⟨fun hc => ?_, fun hc => ?_⟩ <;> first | (exfalso; omega) | (exfalso; contradiction) | (exfalso; (simp_all; done)) | refine h1 ?_ | refine h2 ?_) | refine h1 ?_ | refine h2 ?_
       all_goals clear h1 h2 K1 K2)
    | (refine AC_draw (id := 3) (by kernel_rfl) [⟨0, [], [2], [], [], 0⟩, ⟨1, [], [15], [], [], 0⟩, ⟨2, [0, 1], [], [], [3], 0⟩, ⟨3, [0, 1, 2], [], [], [], 0⟩] (by kernel_rfl) (by kernel_rfl) (by kernel_rfl) ?_)
    | (refine AC_draw (id := 9) (by kernel_rfl) [⟨0, [], [2], [], [], 0⟩, ⟨1, [], [31], [], [], 0⟩, ⟨2, [0, 1], [], [], [3], 0⟩, ⟨3, [0, 1, 2], [], [], [], 0⟩] (by kernel_rfl) (by kernel_rfl) (by kernel_rfl) ?_)
    | (refine AC_draw (id := 12) (by kernel_rfl) [⟨0, [], [35], [], [], 0⟩, ⟨1, [], [2, 34], [], [], 0⟩, ⟨2, [0], [35], [], [], 0⟩, ⟨3, [0, 1, 2], [], [], [3], 0⟩, ⟨4, [0, 1, 2, 3], [], [], [], 0⟩] (by kernel_rfl) (by kernel_rfl) (by kernel_rfl) ?_)
    | ((first | refine DG_next' (by kernel_rfl) (fun K hK => ?_) | refine DG_nil (by kernel_rfl) (fun K hK => ?_))
       simp only [↓Go.Sy.dsnE_some, ↓Go.Sy.dsnE_none, ↓Go.Sy.dsnE_nil, ↓Go.Sy.dsnO_snoc, ↓Go.Sy.dsnO_nil, ↓Go.Sy.nidAt_snoc, ↓Go.Sy.nidAt_nil, push_cast, Nat.reduceLeDiff, Nat.reduceSub, Nat.reduceBEq, Nat.reduceEqDiff, Nat.reduceAdd, Nat.reduceLT, ↓reduceIte, reduceCtorEq]
       refine hK _ _ _ ?_; clear hK K)
    | (refine DG_go ?_)
    | (refine AL_nil ?_) | (refine Thn_normal ?_) | (refine Thn_ret ?_) | (refine Thn_exit ?_) | (refine Blk_normal ?_) | (refine Blk_ret ?_) | (refine Blk_here ?_) | (refine Blk_other rfl ?_) | (refine AC_block ?_) | (refine AC_exit ?_) | (refine AC_skip ?_) | (refine AC_ret ?_))
  all_goals (have e : j = l.length := (by omega); subst e; first | (refine Ends.mk2 (by first | exact .inr rfl | exact .inl rfl) [1,3] ?_; simp (dsimp := false) (disch := first | omega | assumption | (simp only [List.length_cons, List.length_nil, Go.Sy.cS_len, Go.Sy.cB_len, Go.Sy.cI_len, List.length_replicate, List.length_map, List.length_append, List.length_set, List.length_take, List.length_drop, Go.Sy.splR_length]; done) | (simp only [List.length_cons, List.length_nil, Go.Sy.cS_len, Go.Sy.cB_len, Go.Sy.cI_len, List.length_replicate, List.length_map, List.length_append, List.length_set, List.length_take, List.length_drop, Go.Sy.splR_length]; omega)) only [push_cast, List.reduceReplicate, Nat.reduceAdd, Nat.reduceMul, Nat.reduceSub, Nat.reduceEqDiff, Nat.reduceLT, Nat.reduceLeDiff, Nat.reduceBEq, Int.reduceToNat, Int.reduceEq, Int.reduceLT, Int.reduceLE, Int.reduceAdd, Int.reduceSub, Int.reduceMul, ↓reduceIte, reduceCtorEq, Try.f12, q1, rQ, tsl_t, tsl_f]; (repeat (refine And.intro (by (first | omega | assumption | ((try clear hK); first | (simp; done) | (simp; omega) | (simp_all; done) | ((try simp); split <;> first | omega | (simp_all; done) | (simp_all; omega))))) ?_)); try (first | omega | assumption | ((try clear hK); first | (simp; done) | (simp; omega) | (simp_all; done) | ((try simp); split <;> first | omega | (simp_all; done) | (simp_all; omega))))) | (exfalso; rw [hz1] at hz; cases hz))
end Go.Proofs.Ytipmfcpmbkopeaa
