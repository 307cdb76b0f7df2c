/- The disk: the law DiskCrash as a call. No condition. -/
import Derived.Test.YtdghbmidfebkaaaDisk11
set_option maxHeartbeats 4000000
set_option maxRecDepth 20000
set_option linter.unusedVariables false
set_option linter.unusedSimpArgs false
namespace Go.Proofs.Ytdghbmidfebkaaa
open Go Go.Sy
attribute [local irreducible] AO AL AC OpT ACall Ends DGo DRun Thn Blk Nxt

theorem chg_none' {n k : Nat} : chg (List.replicate n false) k = [] := by
  unfold chg
  have : List.filter (fun i => (List.replicate n false).getD i default) (List.range k) = [] := by
    rw [List.filter_eq_nil_iff]
    intro a _
    rw [List.getD_eq_getElem?_getD, List.getElem?_replicate]
    split <;> decide
  rw [this]; rfl
theorem getD_set {α : Type} [Inhabited α] (l : List α) (i j : Nat) (v : α) : (l.set i v).getD j default = l.getD j default ∨ (i = j ∧ (l.set i v).getD j default = v) := by
  rw [List.getD_eq_getElem?_getD, List.getD_eq_getElem?_getD, List.getElem?_set]
  by_cases h : i = j
  · subst h
    by_cases hl : i < l.length
    · right; simp [hl]
    · left; simp [hl]
  · left; simp [h]
theorem leave_cases (b : Int) (o s : ByteArray) : leave b o s = o ∨ leave b o s = s.extract 0 ((s.size : Int) / 2).toNat ∨ leave b o s = ⟨#[]⟩ ∨ leave b o s = s := by
  unfold leave
  split
  · exact .inl rfl
  · split
    · exact .inr (.inl rfl)
    · split
      · exact .inr (.inr (.inl rfl))
      · exact .inr (.inr (.inr rfl))
/-- What a crash leaves of each sector. -/
theorem cr_case {bits : List Int} {d : List Bool} {n : Nat} {old now : List ByteArray} (j : Nat) (k : Nat) (hk : k ≤ (chg d n).length) :
    (cr bits (chg d n) old now k).getD j default = now.getD j default ∨ (d.getD j default = true ∧ ((cr bits (chg d n) old now k).getD j default = old.getD j default ∨ (cr bits (chg d n) old now k).getD j default = ⟨#[]⟩ ∨
      (cr bits (chg d n) old now k).getD j default = (now.getD j default).extract 0 (((now.getD j default).size : Int) / 2).toNat)) := by
  induction k with
  | zero => exact .inl rfl
  | succ k ih =>
    rw [cr]
    rcases getD_set (cr bits (chg d n) old now k) ((chg d n).getD k default).toNat j (leave (bitAt bits k) (old.getD ((chg d n).getD k default).toNat default) ((cr bits (chg d n) old now k).getD ((chg d n).getD k default).toNat default)) with h | ⟨h1, h2⟩
    · rw [h]; exact ih (by omega)
    · rw [h2, cr_keeps (Nat.le_refl k) (by omega)]
      obtain ⟨i, g1, g2, g3⟩ := chg_get (d := d) (n := n) (k := k) (by omega)
      have e : (chg d n).getD k default = (i : Int) := by rw [List.getD_eq_getElem?_getD, g1]; rfl
      rw [e] at h1 ⊢
      have : i = j := by simpa using h1
      subst this
      have e2 : ((i : Int)).toNat = i := rfl
      rw [e2]
      rcases leave_cases (bitAt bits k) (old.getD i default) (now.getD i default) with h | h | h | h
      · exact .inr ⟨g3, .inl h⟩
      · exact .inr ⟨g3, .inr (.inr h)⟩
      · exact .inr ⟨g3, .inr (.inl h)⟩
      · exact .inl h
theorem read_as {n : Nat} {now old : List ByteArray} {dirty : List Bool} {j : Nat} {v : ByteArray} (hv : now.getD j default = v) (hn : n < 2^62) (h1 : now.length = n) (h4 : j < n) :
    ACall Try.prog 20 [.pt 0 0, .val (.int .i64 j)] (diskO 0 n now old dirty) 4 (.tup [.val (.string v), .val (.int .i64 0)]) (diskO 0 n now old dirty) := by
  have := read_ok (now := now) (old := old) (dirty := dirty) (i := (j : Int)) hn h1 (by omega) (by omega)
  rw [← hv]; exact this

theorem bool_ff {b : Bool} (h : b = true) (k : b = false) : False := by rw [h] at k; cases k
theorem sel_not {α : Type} {z : Bool} {a b : α} : sel (!z) a b = sel z b a := by cases z <;> rfl
theorem sel_same {α : Type} {z : Bool} {a : α} : sel z a a = a := by cases z <;> rfl
def crashLI (n : Nat) (l : List OpV) (bits : List Int) (j : {j : Nat // j ≤ n}) : St :=
  ⟨117, 0, [(7,.pt 0 0), (8,.pt 4 0), (10,.val (.int .i64 (chg (run n (d0 n) l l.length).dirty n).length)), (47,.val (.int .i64 n)), (48,.val (.int .i64 j.val))],
   [(0, some (.cells [.sl 1 0 n 1, .sl 2 0 n 1, .sl 3 0 n 1] 59)), (1, some (.cells (cS (cr bits (chg (run n (d0 n) l l.length).dirty n) (run n (d0 n) l l.length).old (run n (d0 n) l l.length).now (chg (run n (d0 n) l l.length).dirty n).length)) 9)),
    (2, some (.cells (cS (cr bits (chg (run n (d0 n) l l.length).dirty n) (run n (d0 n) l l.length).old (run n (d0 n) l l.length).now (chg (run n (d0 n) l l.length).dirty n).length)) 9)), (3, some (.cells (cB (List.replicate n false)) 4)),
    (4, some (.cells [.isl false (cS (run n (d0 n) l l.length).now) n, .isl false (cS (run n (d0 n) l l.length).old) n, .isl false (cB (run n (d0 n) l l.length).dirty) n] 32))]⟩
theorem crash_law {n : Nat} {sec : Int} {l : List OpV} {z z2 : Bool} {bits : List Int} (hs : 0 ≤ sec) (hs2 : sec ≤ 255) (hn : 1 + sec % 8 = (n : Int)) (ho : ∀ o ∈ l, okOp o) (hl : l.length < 2^50) (hz : z2 = true → bits = []) (hb : ∀ b ∈ bits, 0 ≤ b ∧ b ≤ 255) (hbl : bits.length < 2^47) :
    ACall Try.prog 4 [.val (.int .u8 sec), .isl z (cOps l) l.length, .isl z2 (cI .u8 bits) bits.length] [] 0 (.val (.bool true)) [] := by
  have hd := d0_ok n
  have hr := run_ok (l := l) hd l.length
  have hlen1 := hr.1
  have hlen2 := hr.2.1
  have hlen3 := hr.2.2.1
  have hcl := cr_len (bits := bits) (l := chg (run n (d0 n) l l.length).dirty n) (old := (run n (d0 n) l l.length).old) (now := (run n (d0 n) l l.length).now) (k := (chg (run n (d0 n) l l.length).dirty n).length)
  have hchl := chg_le (d := (run n (d0 n) l l.length).dirty) (k := n)
  cases hf : few l
  all_goals (
  refine ACall.enter Try.func4 rfl (by simp [Try.ntmps4]) (by simp) ?_
  simp only [entry, idx, Try.ntmps4, List.length, List.map_cons, List.map_nil, List.append_nil, List.cons_append, List.nil_append, Nat.reduceAdd, Nat.zero_add, List.length_cons, List.length_nil]
  repeat' (first
    | (refine AC_loop_id ?_; refine AC_loop' [0,1,2,3,4] ([0,1,2,3,4].length) (crashLI n l bits) (fun j => n - j.val) (⟨0, by omega⟩) rfl (by unfold crashLI; simp only [List.cons_append, List.nil_append]; refine Sub.mk2 ?_; (simp (dsimp := false) (disch := first | omega | assumption | (simp only [List.length_cons, List.length_nil, Go.Sy.cS_len, Go.Sy.cB_len, Go.Sy.cI_len, List.length_replicate, List.length_map, List.length_append, List.length_set, List.length_take, List.length_drop]; omega)) only [push_cast, Nat.reduceAdd, Nat.reduceMul, Nat.reduceSub, Nat.reduceEqDiff, Nat.reduceLT, Nat.reduceLeDiff, Nat.reduceBEq, Int.reduceToNat, Int.reduceEq, Int.reduceLT, Int.reduceLE, Int.reduceAdd, Int.reduceSub, Int.reduceMul, ↓reduceIte, reduceCtorEq, dkO, diskO, dkR, refD, hf, chg_none', islN_all, sel_not, sel_same]); (repeat (refine And.intro (by (first | omega | assumption | ((try clear hK); first | (simp; done) | (simp; omega) | (simp_all; done) | ((try simp); split <;> first | omega | (simp_all; done) | (simp_all; omega))))) ?_)); (first | done | (first | omega | assumption | ((try clear hK); first | (simp; done) | (simp; omega) | (simp_all; done) | ((try simp); split <;> first | omega | (simp_all; done) | (simp_all; omega))))); done) ?_; (rintro ⟨j, hj⟩; have hsz := size_at hr.2.2.2.1 j; rcases cr_case (bits := bits) (d := (run n (d0 n) l l.length).dirty) (n := n) (old := (run n (d0 n) l l.length).old) (now := (run n (d0 n) l l.length).now) j _ (Nat.le_refl _) with hv | ⟨hdj, hv | hv | hv⟩ <;> (simp (dsimp := false) (disch := first | omega | assumption | (simp only [List.length_cons, List.length_nil, Go.Sy.cS_len, Go.Sy.cB_len, Go.Sy.cI_len, List.length_replicate, List.length_map, List.length_append, List.length_set, List.length_take, List.length_drop]; omega)) only [push_cast, Nat.reduceAdd, Nat.reduceMul, Nat.reduceSub, Nat.reduceEqDiff, Nat.reduceLT, Nat.reduceLeDiff, Nat.reduceBEq, Int.reduceToNat, Int.reduceEq, Int.reduceLT, Int.reduceLE, Int.reduceAdd, Int.reduceSub, Int.reduceMul, ↓reduceIte, reduceCtorEq, crashLI])))
    | (refine Nxt_id ?_; refine Nxt.mk [0,1,2,3,4] (⟨j + 1, by omega⟩) rfl (by unfold crashLI; simp only [List.cons_append, List.nil_append]; refine Sub.mk2 ?_; (simp (dsimp := false) (disch := first | omega | assumption | (simp only [List.length_cons, List.length_nil, Go.Sy.cS_len, Go.Sy.cB_len, Go.Sy.cI_len, List.length_replicate, List.length_map, List.length_append, List.length_set, List.length_take, List.length_drop]; omega)) only [push_cast, Nat.reduceAdd, Nat.reduceMul, Nat.reduceSub, Nat.reduceEqDiff, Nat.reduceLT, Nat.reduceLeDiff, Nat.reduceBEq, Int.reduceToNat, Int.reduceEq, Int.reduceLT, Int.reduceLE, Int.reduceAdd, Int.reduceSub, Int.reduceMul, ↓reduceIte, reduceCtorEq, dkO, diskO, dkR, refD, hf, chg_none', islN_all, sel_not, sel_same]); (repeat (refine And.intro (by (first | omega | assumption | ((try clear hK); first | (simp; done) | (simp; omega) | (simp_all; done) | ((try simp); split <;> first | omega | (simp_all; done) | (simp_all; omega))))) ?_)); (first | done | (first | omega | assumption | ((try clear hK); first | (simp; done) | (simp; omega) | (simp_all; done) | ((try simp); split <;> first | omega | (simp_all; done) | (simp_all; omega))))); done) (by first | omega | (simp; omega)))
    | (refine AC_seq ?_)
    | (refine AC_region_lit ?_)
    | ((first | refine AL_go rfl (fun K hK => ?_) | refine AL_go0 (fun K hK => ?_) | refine DG_run (fun K hK => ?_))
       (first | refine R_callG (f := 10) [] 0 false ?_ | refine R_callG (f := 15) [] 0 false ?_ | refine R_callG (f := 16) [] 0 false ?_ | refine R_callG (f := 17) [0,1,2,3] 4 false ?_ | refine R_callG (f := 19) [] 0 false ?_ | refine R_callG (f := 18) [0,1,2,3] 4 false ?_ | refine R_callG (f := 20) [0,1,2,3] 4 false ?_ | refine R_callG (f := 21) [] 0 false ?_ | refine R_callG (f := 22) [0,1,2,3] 4 false ?_)
       simp (dsimp := false) (disch := first | omega | assumption | (simp only [List.length_cons, List.length_nil, Go.Sy.cS_len, Go.Sy.cB_len, Go.Sy.cI_len, List.length_replicate, List.length_map, List.length_append, List.length_set, List.length_take, List.length_drop]; omega)) only [push_cast, Nat.reduceAdd, Nat.reduceMul, Nat.reduceSub, Nat.reduceEqDiff, Nat.reduceLT, Nat.reduceLeDiff, Nat.reduceBEq, Int.reduceToNat, Int.reduceEq, Int.reduceLT, Int.reduceLE, Int.reduceAdd, Int.reduceSub, Int.reduceMul, ↓reduceIte, reduceCtorEq, dkO, diskO, dkR, refD, hf, chg_none', islN_all, sel_not, sel_same]
       (repeat (refine And.intro (by (first | omega | assumption | ((try clear hK); first | (simp; done) | (simp; omega) | (simp_all; done) | ((try simp); split <;> first | omega | (simp_all; done) | (simp_all; omega))))) ?_)); intro G hG; refine hG _ _ ?_; clear hG G
       (first | refine ⟨_, _, awake_ok, ?_⟩ | refine ⟨_, _, few_ok (l := l) hl, ?_⟩ | refine ⟨_, _, both_ok hs hs2 hn, ?_⟩ | refine ⟨_, _, play_ok (n := n) (d := d0 n) (l := l) (by (first | omega | assumption | ((try clear hK); first | (simp; done) | (simp; omega) | (simp_all; done) | ((try simp); split <;> first | omega | (simp_all; done) | (simp_all; omega))))) (by (first | omega | assumption | ((try clear hK); first | (simp; done) | (simp; omega) | (simp_all; done) | ((try simp); split <;> first | omega | (simp_all; done) | (simp_all; omega))))) hd ho hl, ?_⟩ | refine ⟨_, _, clone8_ok (bits := bits) hz hbl, ?_⟩ | refine ⟨_, _, crash_ok (n := n) (now := (run n (d0 n) l l.length).now) (old := (run n (d0 n) l l.length).old) (dirty := (run n (d0 n) l l.length).dirty) (by (first | omega | assumption | ((try clear hK); first | (simp; done) | (simp; omega) | (simp_all; done) | ((try simp); split <;> first | omega | (simp_all; done) | (simp_all; omega))))) hr.1 hr.2.1 hr.2.2.1 hb hbl hr.2.2.2.1, ?_⟩ | refine ⟨_, _, read_as (n := n) (j := j) hv (by (first | omega | assumption | ((try clear hK); first | (simp; done) | (simp; omega) | (simp_all; done) | ((try simp); split <;> first | omega | (simp_all; done) | (simp_all; omega))))) (hcl.trans hr.1) (by (first | omega | assumption | ((try clear hK); first | (simp; done) | (simp; omega) | (simp_all; done) | ((try simp); split <;> first | omega | (simp_all; done) | (simp_all; omega))))), ?_⟩ | refine ⟨_, _, changed_ok (n := n) (now := (run n (d0 n) l l.length).now) (old := (run n (d0 n) l l.length).old) (dirty := (run n (d0 n) l l.length).dirty) (by (first | omega | assumption | ((try clear hK); first | (simp; done) | (simp; omega) | (simp_all; done) | ((try simp); split <;> first | omega | (simp_all; done) | (simp_all; omega))))) hr.2.1, ?_⟩ | refine ⟨_, _, dirty_ok (n := n) (dirty := List.replicate n false) (by (first | omega | assumption | ((try clear hK); first | (simp; done) | (simp; omega) | (simp_all; done) | ((try simp); split <;> first | omega | (simp_all; done) | (simp_all; omega))))) (List.length_replicate ..), ?_⟩)
       simp (dsimp := false) (disch := first | omega | assumption | (simp only [List.length_cons, List.length_nil, Go.Sy.cS_len, Go.Sy.cB_len, Go.Sy.cI_len, List.length_replicate, List.length_map, List.length_append, List.length_set, List.length_take, List.length_drop]; omega)) only [push_cast, Nat.reduceAdd, Nat.reduceMul, Nat.reduceSub, Nat.reduceEqDiff, Nat.reduceLT, Nat.reduceLeDiff, Nat.reduceBEq, Int.reduceToNat, Int.reduceEq, Int.reduceLT, Int.reduceLE, Int.reduceAdd, Int.reduceSub, Int.reduceMul, ↓reduceIte, reduceCtorEq, dkO, diskO, dkR, refD, hf, chg_none', islN_all, sel_not, sel_same]
       (repeat (refine And.intro (by (first | omega | assumption | ((try clear hK); first | (simp; done) | (simp; omega) | (simp_all; done) | ((try simp); split <;> first | omega | (simp_all; done) | (simp_all; omega))))) ?_)); (first | refine hK _ _ _ ?_ | refine hK _ _ ?_); clear hK K)
    | ((first | refine AL_go rfl (fun K hK => ?_) | refine AL_go0 (fun K hK => ?_) | refine DG_run (fun K hK => ?_))
       (first | refine R_move _ ?_ | refine R_assign _ ?_ | refine Q_load _ _ ?_ | refine Q_loadAgg _ _ ?_ | refine Q_fieldAddr _ _ _ ?_ | refine Q_indexAddr _ _ _ ?_ | refine Q_len _ _ ?_ | refine Q_lenStr _ _ ?_ | refine Q_pick _ _ _ ?_ | refine Q_not _ _ ?_ | refine Q_neg _ _ ?_ | refine Q_extract _ _ ?_ | refine R_alloc _ ?_ | refine Q_store _ _ _ ?_ | refine Q_sliceStr _ _ _ _ ?_ | refine Q_sliceI _ _ _ _ ?_ | refine Q_bin _ _ _ _ _ ?_)
       simp (dsimp := false) (disch := first | omega | assumption | (simp only [List.length_cons, List.length_nil, Go.Sy.cS_len, Go.Sy.cB_len, Go.Sy.cI_len, List.length_replicate, List.length_map, List.length_append, List.length_set, List.length_take, List.length_drop]; omega)) only [push_cast, Nat.reduceAdd, Nat.reduceMul, Nat.reduceSub, Nat.reduceEqDiff, Nat.reduceLT, Nat.reduceLeDiff, Nat.reduceBEq, Int.reduceToNat, Int.reduceEq, Int.reduceLT, Int.reduceLE, Int.reduceAdd, Int.reduceSub, Int.reduceMul, ↓reduceIte, reduceCtorEq, dkO, diskO, dkR, refD, hf, chg_none', islN_all, sel_not, sel_same]
       (repeat (refine And.intro (by (first | omega | assumption | ((try clear hK); first | (simp; done) | (simp; omega) | (simp_all; done) | ((try simp); split <;> first | omega | (simp_all; done) | (simp_all; omega))))) ?_)); (first | refine hK _ _ _ ?_ | refine hK _ _ ?_); clear hK K)
    | ((first | refine AL_go rfl (fun K hK => ?_) | refine AL_go0 (fun K hK => ?_) | refine DG_run (fun K hK => ?_))
       (first | refine Q_slice _ _ _ _ ?_)
       simp (dsimp := false) (disch := first | omega | assumption | (simp only [List.length_cons, List.length_nil, Go.Sy.cS_len, Go.Sy.cB_len, Go.Sy.cI_len, List.length_replicate, List.length_map, List.length_append, List.length_set, List.length_take, List.length_drop]; omega)) only [push_cast, Nat.reduceAdd, Nat.reduceMul, Nat.reduceSub, Nat.reduceEqDiff, Nat.reduceLT, Nat.reduceLeDiff, Nat.reduceBEq, Int.reduceToNat, Int.reduceEq, Int.reduceLT, Int.reduceLE, Int.reduceAdd, Int.reduceSub, Int.reduceMul, ↓reduceIte, reduceCtorEq, dkO, diskO, dkR, refD, hf, chg_none', islN_all, sel_not, sel_same]
       (repeat (refine And.intro (by (first | omega | assumption | ((try clear hK); first | (simp; done) | (simp; omega) | (simp_all; done) | ((try simp); split <;> first | omega | (simp_all; done) | (simp_all; omega))))) ?_)); (first | refine hK _ _ _ ?_ | refine hK _ _ ?_); clear hK K)
    | ((first | refine AL_go rfl (fun K hK => ?_) | refine AL_go0 (fun K hK => ?_) | refine DG_run (fun K hK => ?_))
       (first | refine Q_sliceEnd _ _ _ _ ?_)
       simp (dsimp := false) (disch := first | omega | assumption | (simp only [List.length_cons, List.length_nil, Go.Sy.cS_len, Go.Sy.cB_len, Go.Sy.cI_len, List.length_replicate, List.length_map, List.length_append, List.length_set, List.length_take, List.length_drop]; omega)) only [push_cast, Nat.reduceAdd, Nat.reduceMul, Nat.reduceSub, Nat.reduceEqDiff, Nat.reduceLT, Nat.reduceLeDiff, Nat.reduceBEq, Int.reduceToNat, Int.reduceEq, Int.reduceLT, Int.reduceLE, Int.reduceAdd, Int.reduceSub, Int.reduceMul, ↓reduceIte, reduceCtorEq, dkO, diskO, dkR, refD, hf, chg_none', islN_all, sel_not, sel_same]
       (repeat (refine And.intro (by (first | omega | assumption | ((try clear hK); first | (simp; done) | (simp; omega) | (simp_all; done) | ((try simp); split <;> first | omega | (simp_all; done) | (simp_all; omega))))) ?_)); (first | refine hK _ _ _ ?_ | refine hK _ _ ?_); clear hK K)
    | ((first | refine AL_guard rfl rfl (fun K1 K2 h1 h2 => ?_) rfl | refine AC_cond_k (fun K1 K2 h1 h2 => ?_) | refine DG_guard rfl rfl (fun K1 K2 h1 h2 => ?_))
       simp (dsimp := false) (disch := first | omega | assumption | (simp only [List.length_cons, List.length_nil, Go.Sy.cS_len, Go.Sy.cB_len, Go.Sy.cI_len, List.length_replicate, List.length_map, List.length_append, List.length_set, List.length_take, List.length_drop]; omega)) only [push_cast, Nat.reduceAdd, Nat.reduceMul, Nat.reduceSub, Nat.reduceEqDiff, Nat.reduceLT, Nat.reduceLeDiff, Nat.reduceBEq, Int.reduceToNat, Int.reduceEq, Int.reduceLT, Int.reduceLE, Int.reduceAdd, Int.reduceSub, Int.reduceMul, ↓reduceIte, reduceCtorEq, dkO, diskO, dkR, refD, hf, chg_none', islN_all, sel_not, sel_same]
       first | (refine ⟨fun hc => ?_, fun hc => ?_⟩ <;> first | (exfalso; omega) | (exfalso; contradiction) | (exfalso; exact bool_ff hdj (by assumption)) | (exfalso; exact bool_ff hc (by assumption)) | (exfalso; exact bool_ff (by assumption) hc) | refine h1 ?_ | refine h2 ?_) | refine h1 ?_ | refine h2 ?_
       all_goals clear h1 h2 K1 K2)
    | (refine AC_draw (id := 14) (by kernel_rfl) [⟨0, [], [59, 62, 63, 64, 65, 66], [], [], 0⟩, ⟨1, [0], [59, 62, 63, 64, 65, 66], [], [], 0⟩, ⟨2, [], [57, 58, 62, 63, 64, 65, 66], [], [], 0⟩, ⟨3, [0, 1, 2], [62, 63, 64, 65, 66], [], [], 0⟩, ⟨4, [0, 1, 2, 3], [62, 63, 64, 65, 66], [], [], 0⟩, ⟨5, [], [14, 57, 58, 59, 60, 61, 64], [], [], 0⟩, ⟨6, [5], [14, 57, 58, 59, 60, 61, 64], [], [], 0⟩, ⟨7, [], [14, 57, 58, 59, 60, 61, 62, 63], [], [], 0⟩, ⟨8, [5, 6, 7], [14, 57, 58, 59, 60, 61], [], [], 0⟩, ⟨9, [5, 6, 7, 8], [14, 57, 58, 59, 60, 61], [], [], 0⟩, ⟨10, [0, 1, 2, 3, 4], [62, 63, 64, 65, 66], [], [], 0⟩, ⟨11, [0, 1, 2, 3, 4, 5, 6, 7, 8, 9, 10], [], [], [], 0⟩] (by kernel_rfl) (by kernel_rfl) (by kernel_rfl) ?_)
    | ((first | refine DG_next' (by kernel_rfl) (fun K hK => ?_) | refine DG_nil (by kernel_rfl) (fun K hK => ?_))
       simp only [↓Go.Sy.dsnE_some, ↓Go.Sy.dsnE_none, ↓Go.Sy.dsnE_nil, ↓Go.Sy.dsnO_snoc, ↓Go.Sy.dsnO_nil, ↓Go.Sy.nidAt_snoc, ↓Go.Sy.nidAt_nil, push_cast, Nat.reduceLeDiff, Nat.reduceSub, Nat.reduceBEq, Nat.reduceEqDiff, Nat.reduceAdd, Nat.reduceLT, ↓reduceIte, reduceCtorEq]
       refine hK _ _ _ ?_; clear hK K)
    | (refine DG_go ?_)
    | (refine AL_nil ?_) | (refine Thn_normal ?_) | (refine Thn_ret ?_) | (refine Thn_exit ?_) | (refine Blk_normal ?_) | (refine Blk_ret ?_) | (refine Blk_here ?_) | (refine Blk_other rfl ?_) | (refine AC_block ?_) | (refine AC_exit ?_) | (refine AC_skip ?_) | (refine AC_ret ?_)))
  all_goals (refine Ends.mk2 (by first | exact .inr rfl | exact .inl rfl) [] ?_; simp (dsimp := false) (disch := first | omega | assumption | (simp only [List.length_cons, List.length_nil, Go.Sy.cS_len, Go.Sy.cB_len, Go.Sy.cI_len, List.length_replicate, List.length_map, List.length_append, List.length_set, List.length_take, List.length_drop]; omega)) only [push_cast, Nat.reduceAdd, Nat.reduceMul, Nat.reduceSub, Nat.reduceEqDiff, Nat.reduceLT, Nat.reduceLeDiff, Nat.reduceBEq, Int.reduceToNat, Int.reduceEq, Int.reduceLT, Int.reduceLE, Int.reduceAdd, Int.reduceSub, Int.reduceMul, ↓reduceIte, reduceCtorEq, Try.f4]; (repeat (refine And.intro (by (first | omega | assumption | ((try clear hK); first | (simp; done) | (simp; omega) | (simp_all; done) | ((try simp); split <;> first | omega | (simp_all; done) | (simp_all; omega))))) ?_)); try (first | omega | assumption | ((try clear hK); first | (simp; done) | (simp; omega) | (simp_all; done) | ((try simp); split <;> first | omega | (simp_all; done) | (simp_all; omega)))))
end Go.Proofs.Ytdghbmidfebkaaa
