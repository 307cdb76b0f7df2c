/- The disk: runs of operations. No condition. -/
import Derived.Test.YtdghbmidfebkaaaDisk8
import Derived.Test.YtdghbmidfebkaaaDisk9
set_option maxHeartbeats 1000000
set_option maxRecDepth 20000
set_option linter.unusedVariables false
set_option linter.unusedSimpArgs false
namespace Go.Proofs.Ytdghbmidfebkaaa
open Go Go.Sy
attribute [local irreducible] AO AL AC OpT ACall Ends DGo DRun Thn Blk Nxt

structure Dk where
  now : List ByteArray
  old : List ByteArray
  dirty : List Bool
structure OpV where
  kind : Int
  at' : Int
  text : ByteArray
  z : Bool
  bits : List Int
instance : Inhabited OpV := ⟨⟨0, 0, ⟨#[]⟩, true, []⟩⟩
def okD (n : Nat) (d : Dk) : Prop := d.now.length = n ∧ d.dirty.length = n ∧ d.old.length = n ∧ (∀ s ∈ d.now, s.size ≤ 65536) ∧ (∀ s ∈ d.old, s.size ≤ 65536)
def okOp (o : OpV) : Prop := 0 ≤ o.kind ∧ o.kind ≤ 255 ∧ (o.z = true → o.bits = []) ∧ (∀ b ∈ o.bits, 0 ≤ b ∧ b ≤ 255) ∧ o.bits.length < 2^47
def opV (o : OpV) : AV := opA o.kind o.at' o.text o.z o.bits
def dkO (b n : Nat) (d : Dk) : List AObj := diskO b n d.now d.old d.dirty
def dkR (n : Nat) (d : Dk) : AV := refD n d.now d.old d.dirty

/-- One operation. -/
def stepD (n : Nat) (d : Dk) (o : OpV) : Dk × (ByteArray × Int × Int) :=
  if o.kind % 4 = 0 then
    if 0 ≤ o.at' ∧ o.at' < n then
      if o.text.size ≤ 65536 then (⟨d.now.set o.at'.toNat o.text, d.old, d.dirty.set o.at'.toNat true⟩, ⟨#[]⟩, 0, 0) else (d, ⟨#[]⟩, 0, 3)
    else (d, ⟨#[]⟩, 0, 7)
  else if o.kind % 4 = 1 then
    if 0 ≤ o.at' ∧ o.at' < n then (d, d.now.getD o.at'.toNat default, 0, 0) else (d, ⟨#[]⟩, 0, 7)
  else if o.kind % 4 = 2 then (⟨d.now, d.now, List.replicate n false⟩, ⟨#[]⟩, 0, 0)
  else (⟨cr o.bits (chg d.dirty n) d.old d.now (chg d.dirty n).length, cr o.bits (chg d.dirty n) d.old d.now (chg d.dirty n).length, List.replicate n false⟩, ⟨#[]⟩, ((chg d.dirty n).length : Nat), 0)

theorem cr_small {bits l : List Int} {old now : List ByteArray} (h1 : ∀ s ∈ now, s.size ≤ 65536) (h2 : ∀ s ∈ old, s.size ≤ 65536) (k : Nat) : ∀ s ∈ cr bits l old now k, s.size ≤ 65536 := by
  induction k with
  | zero => exact h1
  | succ k ih =>
    intro s hs
    rw [cr] at hs
    rcases List.mem_or_eq_of_mem_set hs with hs | rfl
    · exact ih s hs
    · unfold leave
      split
      · exact size_at h2 _
      · split
        · have := size_at ih (l.getD k default).toNat
          simp only [ByteArray.size_extract]; omega
        · split
          · decide
          · exact size_at ih _

theorem stepD_ok {n : Nat} {d : Dk} {o : OpV} (h : okD n d) : okD n (stepD n d o).1 := by
  obtain ⟨h1, h2, h3, h4, h5⟩ := h
  unfold stepD
  split
  · split
    · split
      · refine ⟨by simpa using h1, by simpa using h2, h3, fun s hs => ?_, h5⟩
        rcases List.mem_or_eq_of_mem_set hs with hs | rfl
        · exact h4 s hs
        · assumption
      · exact ⟨h1, h2, h3, h4, h5⟩
    · exact ⟨h1, h2, h3, h4, h5⟩
  · split
    · split <;> exact ⟨h1, h2, h3, h4, h5⟩
    · split
      · exact ⟨h1, by simp, h1, h4, h4⟩
      · exact ⟨by simpa [cr_len] using h1, by simp, by simpa [cr_len] using h1, cr_small h4 h5 _, cr_small h4 h5 _⟩

theorem do_ok {n : Nat} {d : Dk} {o : OpV} (h0 : 1 ≤ n) (hn : n ≤ 1024) (hd : okD n d) (ho : okOp o) :
    ACall Try.prog 30 [.pt 0 0, opV o] (dkO 0 n d) 4 (.tup [.val (.string (stepD n d o).2.1), .val (.int .i64 (stepD n d o).2.2.1), .val (.int .i64 (stepD n d o).2.2.2)]) (dkO 0 n (stepD n d o).1) := by
  obtain ⟨h1, h2, h3, h4, h5⟩ := hd
  obtain ⟨k1, k2, k3, k4, k5⟩ := ho
  unfold stepD dkO opV
  split
  · rename_i hk
    split
    · rename_i hr
      split
      · rename_i hs; exact do_wok h0 hn h1 h2 h3 k1 hk hr.1 hr.2 hs
      · rename_i hs; exact do_wlong h0 hn h1 h2 h3 k1 hk hr.1 hr.2 (by omega)
    · rename_i hr; exact do_wbad h0 hn h1 h2 h3 k1 hk hr
  · split
    · rename_i hk
      split
      · rename_i hr; exact do_rok h0 hn h1 h2 h3 k1 hk hr.1 hr.2
      · rename_i hr; exact do_rbad h0 hn h1 h2 h3 k1 hk hr
    · split
      · rename_i hk; exact do_sync h0 hn h1 h2 h3 k1 hk
      · exact do_crash h0 hn h1 h2 h3 k1 (by omega) k3 k4 k5 h4
theorem refDo_ok {n : Nat} {d : Dk} {o : OpV} (h0 : 1 ≤ n) (hn : n ≤ 1024) (hd : okD n d) (ho : okOp o) :
    ACall Try.prog 31 [dkR n d, opV o] [] 0 (.tup [dkR n (stepD n d o).1, .val (.string (stepD n d o).2.1), .val (.int .i64 (stepD n d o).2.2.1), .val (.int .i64 (stepD n d o).2.2.2)]) [] := by
  obtain ⟨h1, h2, h3, h4, h5⟩ := hd
  obtain ⟨k1, k2, k3, k4, k5⟩ := ho
  unfold stepD dkR opV
  split
  · rename_i hk
    split
    · rename_i hr
      split
      · rename_i hs; exact refDo_wok h0 hn h1 h2 h3 k1 hk hr.1 hr.2 hs
      · rename_i hs; exact refDo_wlong h0 hn h1 h2 h3 k1 hk hr.1 hr.2 (by omega)
    · rename_i hr; exact refDo_wbad h0 hn h1 h2 h3 k1 hk hr
  · split
    · rename_i hk
      split
      · rename_i hr; exact refDo_rok h0 hn h1 h2 h3 k1 hk hr.1 hr.2
      · rename_i hr; exact refDo_rbad h0 hn h1 h2 h3 k1 hk hr
    · split
      · rename_i hk; exact refDo_sync h0 hn h1 h2 h3 k1 hk
      · have := refDo_crash (i := o.at') (s := o.text) h0 hn h1 h2 h3 k1 (by omega) k3 k4 k5 h4
        rw [cr_eq (Nat.le_refl _)] at this
        exact this

/-! ### lists of operations -/
def opCells (o : OpV) : List AV := [.val (.int .u8 o.kind), .val (.int .i64 o.at'), .val (.string o.text), .isl o.z (cI .u8 o.bits) o.bits.length]
def cOps (l : List OpV) : List AV := l.flatMap opCells
theorem cOps_len (l : List OpV) : (cOps l).length = l.length * 4 := by
  induction l with
  | nil => rfl
  | cons o l ih => simp only [cOps, List.flatMap_cons, List.length_append] at ih ⊢; rw [ih]; simp [opCells]; omega
theorem cOps_at {l : List OpV} {j : Nat} (h : j < l.length) : ((cOps l).drop (j * 4)).take 4 = opCells (l.getD j default) := by
  induction l generalizing j with
  | nil => simp at h
  | cons o l ih =>
    cases j with
    | zero => simp [cOps, opCells]
    | succ j =>
      have e : cOps (o :: l) = opCells o ++ cOps l := by simp [cOps]
      have hl : (opCells o).length = 4 := rfl
      rw [e, List.drop_append, hl, List.drop_eq_nil_of_le (by rw [hl]; omega), List.nil_append, show (j + 1) * 4 - 4 = j * 4 by omega, ih (by simpa using h)]
      simp
theorem cOps_get {l : List OpV} {j i : Nat} (h : j < l.length) (hi : i < 4) : (cOps l)[j * 4 + i]? = (opCells (l.getD j default))[i]? := by
  rw [← cOps_at h, List.getElem?_take, if_pos hi, List.getElem?_drop]

/-- A run: the disk behind the first k operations. -/
def run (n : Nat) (d : Dk) (l : List OpV) : Nat → Dk
  | 0 => d
  | k + 1 => (stepD n (run n d l k) (l.getD k default)).1
theorem run_zero {n : Nat} {d : Dk} {l : List OpV} : run n d l 0 = d := rfl
theorem run_succ {n : Nat} {d : Dk} {l : List OpV} {k : Nat} : run n d l (k + 1) = (stepD n (run n d l k) (l.getD k default)).1 := rfl
theorem run_ok {n : Nat} {d : Dk} {l : List OpV} (h : okD n d) (k : Nat) : okD n (run n d l k) := by
  induction k with
  | zero => exact h
  | succ k ih => exact stepD_ok ih
theorem op_at {l : List OpV} (h : ∀ o ∈ l, okOp o) (j : Nat) : okOp (l.getD j default) := by
  rw [List.getD_eq_getElem?_getD]
  by_cases hj : j < l.length
  · rw [List.getElem?_eq_getElem hj]; exact h _ (List.getElem_mem hj)
  · rw [List.getElem?_eq_none (by omega)]
    show okOp (⟨0, 0, ⟨#[]⟩, true, []⟩ : OpV)
    exact ⟨by decide, by decide, fun _ => rfl, by simp, by decide⟩

def playI (n : Nat) (d : Dk) (l : List OpV) (z : Bool) (j : {j : Nat // j ≤ l.length}) : St :=
  ⟨55, 4, [(0,.pt 0 0), (4,.pt 4 0), (6,.pt 5 0), (17,.isl z (cOps l) l.length), (18,.val (.int .i64 l.length)), (19,.val (.int .i64 j.val))],
   [(0, some (.cells [.sl 1 0 n 1, .sl 2 0 n 1, .sl 3 0 n 1] 59)), (1, some (.cells (cS (run n d l j.val).now) 9)), (2, some (.cells (cS (run n d l j.val).old) 9)), (3, some (.cells (cB (run n d l j.val).dirty) 4)),
    (4, some (.cells [.isl false (cS (run n d l j.val).now) n, .isl false (cS (run n d l j.val).old) n, .isl false (cB (run n d l j.val).dirty) n] 32)), (5, some (.cells [.isl true [] 0, .isl true [] 0, .isl true [] 0] 32))]⟩
theorem play_ok {n : Nat} {d : Dk} {l : List OpV} {z : Bool} (h0 : 1 ≤ n) (hn : n ≤ 1024) (hd : okD n d) (ho : ∀ o ∈ l, okOp o) (hl : l.length < 2^50) :
    ACall Try.prog 17 [.pt 0 0, dkR n d, .isl z (cOps l) l.length] (dkO 0 n d) 4 (.tup [dkR n (run n d l l.length), .val (.bool true)]) (dkO 0 n (run n d l l.length)) := by
  refine ACall.enter Try.func17 rfl (by simp [Try.ntmps17, dkO, diskO, dkR, refD]) (by simp [dkO, diskO, dkR, refD]) ?_
  simp only [entry, idx, dkO, diskO, dkR, refD, Try.ntmps17, List.length, List.map_cons, List.map_nil, List.append_nil, List.cons_append, List.nil_append, Nat.reduceAdd, Nat.zero_add, List.length_cons, List.length_nil]
  repeat' (first
    | (refine AC_loop_id ?_; refine AC_loop' [0,1,2,3,4,5] ([0,1,2,3,4,5].length) (playI n d l z) (fun j => l.length - j.val) (⟨0, by omega⟩) rfl (by unfold playI; simp only [List.cons_append, List.nil_append]; refine Sub.mk2 ?_; (simp (dsimp := false) (disch := first | omega | assumption | (simp only [List.length_cons, List.length_nil, Go.Sy.cS_len, Go.Sy.cB_len, Go.Sy.cI_len, List.length_replicate, List.length_map, List.length_append, List.length_set, List.length_take, List.length_drop]; omega)) only [push_cast, Nat.reduceAdd, Nat.reduceMul, Nat.reduceSub, Nat.reduceEqDiff, Nat.reduceLT, Nat.reduceLeDiff, Nat.reduceBEq, Int.reduceToNat, Int.reduceEq, Int.reduceLT, Int.reduceLE, Int.reduceAdd, Int.reduceSub, Int.reduceMul, ↓reduceIte, reduceCtorEq, dkO, diskO, dkR, refD, run_zero, run_succ, cOps_at, cOps_len, opCells]); (repeat (refine And.intro (by (first | omega | assumption | ((try clear hK); first | (simp; done) | (simp; omega) | (simp_all; done) | ((try simp); split <;> first | omega | (simp_all; done) | (simp_all; omega))))) ?_)); (first | done | (first | omega | assumption | ((try clear hK); first | (simp; done) | (simp; omega) | (simp_all; done) | ((try simp); split <;> first | omega | (simp_all; done) | (simp_all; omega))))); done) ?_; (rintro ⟨j, hj⟩; have hrj := run_ok (l := l) hd j; have hoj := op_at ho j; (simp (dsimp := false) (disch := first | omega | assumption | (simp only [List.length_cons, List.length_nil, Go.Sy.cS_len, Go.Sy.cB_len, Go.Sy.cI_len, List.length_replicate, List.length_map, List.length_append, List.length_set, List.length_take, List.length_drop]; omega)) only [push_cast, Nat.reduceAdd, Nat.reduceMul, Nat.reduceSub, Nat.reduceEqDiff, Nat.reduceLT, Nat.reduceLeDiff, Nat.reduceBEq, Int.reduceToNat, Int.reduceEq, Int.reduceLT, Int.reduceLE, Int.reduceAdd, Int.reduceSub, Int.reduceMul, ↓reduceIte, reduceCtorEq, playI])))
    | (refine Nxt_id ?_; refine Nxt.mk [0,1,2,3,4,5] (⟨j + 1, by omega⟩) rfl (by unfold playI; simp only [List.cons_append, List.nil_append]; refine Sub.mk2 ?_; (simp (dsimp := false) (disch := first | omega | assumption | (simp only [List.length_cons, List.length_nil, Go.Sy.cS_len, Go.Sy.cB_len, Go.Sy.cI_len, List.length_replicate, List.length_map, List.length_append, List.length_set, List.length_take, List.length_drop]; omega)) only [push_cast, Nat.reduceAdd, Nat.reduceMul, Nat.reduceSub, Nat.reduceEqDiff, Nat.reduceLT, Nat.reduceLeDiff, Nat.reduceBEq, Int.reduceToNat, Int.reduceEq, Int.reduceLT, Int.reduceLE, Int.reduceAdd, Int.reduceSub, Int.reduceMul, ↓reduceIte, reduceCtorEq, dkO, diskO, dkR, refD, run_zero, run_succ, cOps_at, cOps_len, opCells]); (repeat (refine And.intro (by (first | omega | assumption | ((try clear hK); first | (simp; done) | (simp; omega) | (simp_all; done) | ((try simp); split <;> first | omega | (simp_all; done) | (simp_all; omega))))) ?_)); (first | done | (first | omega | assumption | ((try clear hK); first | (simp; done) | (simp; omega) | (simp_all; done) | ((try simp); split <;> first | omega | (simp_all; done) | (simp_all; omega))))); done) (by first | omega | (simp; omega)))
    | (refine AC_seq ?_)
    | (refine AC_region_lit ?_)
    | ((first | refine AL_go rfl (fun K hK => ?_) | refine AL_go0 (fun K hK => ?_))
       (first | refine R_callG (f := 30) [0,1,2,3] 4 false ?_ | refine R_callG (f := 31) [] 0 false ?_)
       simp (dsimp := false) (disch := first | omega | assumption | (simp only [List.length_cons, List.length_nil, Go.Sy.cS_len, Go.Sy.cB_len, Go.Sy.cI_len, List.length_replicate, List.length_map, List.length_append, List.length_set, List.length_take, List.length_drop]; omega)) only [push_cast, Nat.reduceAdd, Nat.reduceMul, Nat.reduceSub, Nat.reduceEqDiff, Nat.reduceLT, Nat.reduceLeDiff, Nat.reduceBEq, Int.reduceToNat, Int.reduceEq, Int.reduceLT, Int.reduceLE, Int.reduceAdd, Int.reduceSub, Int.reduceMul, ↓reduceIte, reduceCtorEq, dkO, diskO, dkR, refD, run_zero, run_succ, cOps_at, cOps_len, opCells]
       (repeat (refine And.intro (by (first | omega | assumption | ((try clear hK); first | (simp; done) | (simp; omega) | (simp_all; done) | ((try simp); split <;> first | omega | (simp_all; done) | (simp_all; omega))))) ?_)); intro G hG; refine hG _ _ ?_; clear hG G
       (first | refine ⟨_, _, do_ok (d := run n d l j) (o := l.getD j default) h0 hn hrj hoj, ?_⟩ | refine ⟨_, _, refDo_ok (d := run n d l j) (o := l.getD j default) h0 hn hrj hoj, ?_⟩)
       simp (dsimp := false) (disch := first | omega | assumption | (simp only [List.length_cons, List.length_nil, Go.Sy.cS_len, Go.Sy.cB_len, Go.Sy.cI_len, List.length_replicate, List.length_map, List.length_append, List.length_set, List.length_take, List.length_drop]; omega)) only [push_cast, Nat.reduceAdd, Nat.reduceMul, Nat.reduceSub, Nat.reduceEqDiff, Nat.reduceLT, Nat.reduceLeDiff, Nat.reduceBEq, Int.reduceToNat, Int.reduceEq, Int.reduceLT, Int.reduceLE, Int.reduceAdd, Int.reduceSub, Int.reduceMul, ↓reduceIte, reduceCtorEq, dkO, diskO, dkR, refD, run_zero, run_succ, cOps_at, cOps_len, opCells]
       (repeat (refine And.intro (by (first | omega | assumption | ((try clear hK); first | (simp; done) | (simp; omega) | (simp_all; done) | ((try simp); split <;> first | omega | (simp_all; done) | (simp_all; omega))))) ?_)); (first | refine hK _ _ _ ?_ | refine hK _ _ ?_); clear hK K)
    | ((first | refine AL_go rfl (fun K hK => ?_) | refine AL_go0 (fun K hK => ?_))
       (first | refine R_move _ ?_ | refine R_assign _ ?_ | refine Q_load _ _ ?_ | refine Q_loadAgg _ _ ?_ | refine Q_indexAddr _ _ _ ?_ | refine Q_len _ _ ?_ | refine Q_lenStr _ _ ?_ | refine Q_pick _ _ _ ?_ | refine Q_extract _ _ ?_ | refine Q_box _ _ ?_ | refine R_alloc _ ?_ | refine Q_store _ _ _ ?_ | refine Q_bin _ _ _ _ _ ?_)
       simp (dsimp := false) (disch := first | omega | assumption | (simp only [List.length_cons, List.length_nil, Go.Sy.cS_len, Go.Sy.cB_len, Go.Sy.cI_len, List.length_replicate, List.length_map, List.length_append, List.length_set, List.length_take, List.length_drop]; omega)) only [push_cast, Nat.reduceAdd, Nat.reduceMul, Nat.reduceSub, Nat.reduceEqDiff, Nat.reduceLT, Nat.reduceLeDiff, Nat.reduceBEq, Int.reduceToNat, Int.reduceEq, Int.reduceLT, Int.reduceLE, Int.reduceAdd, Int.reduceSub, Int.reduceMul, ↓reduceIte, reduceCtorEq, dkO, diskO, dkR, refD, run_zero, run_succ, cOps_at, cOps_len, opCells]
       (repeat (refine And.intro (by (first | omega | assumption | ((try clear hK); first | (simp; done) | (simp; omega) | (simp_all; done) | ((try simp); split <;> first | omega | (simp_all; done) | (simp_all; omega))))) ?_)); (first | refine hK _ _ _ ?_ | refine hK _ _ ?_); clear hK K)
    | ((first | refine AL_guard rfl rfl (fun K1 K2 h1 h2 => ?_) rfl | refine AC_cond_k (fun K1 K2 h1 h2 => ?_))
       simp (dsimp := false) (disch := first | omega | assumption | (simp only [List.length_cons, List.length_nil, Go.Sy.cS_len, Go.Sy.cB_len, Go.Sy.cI_len, List.length_replicate, List.length_map, List.length_append, List.length_set, List.length_take, List.length_drop]; omega)) only [push_cast, Nat.reduceAdd, Nat.reduceMul, Nat.reduceSub, Nat.reduceEqDiff, Nat.reduceLT, Nat.reduceLeDiff, Nat.reduceBEq, Int.reduceToNat, Int.reduceEq, Int.reduceLT, Int.reduceLE, Int.reduceAdd, Int.reduceSub, Int.reduceMul, ↓reduceIte, reduceCtorEq, dkO, diskO, dkR, refD, run_zero, run_succ, cOps_at, cOps_len, opCells]
       first | (refine ⟨fun hc => ?_, fun hc => ?_⟩ <;> first | (exfalso; omega) | (exfalso; contradiction) | refine h1 ?_ | refine h2 ?_) | refine h1 ?_ | refine h2 ?_
       all_goals clear h1 h2 K1 K2)
    | (refine AL_nil ?_) | (refine Thn_normal ?_) | (refine Thn_ret ?_) | (refine Thn_exit ?_) | (refine Blk_normal ?_) | (refine Blk_ret ?_) | (refine Blk_here ?_) | (refine Blk_other rfl ?_) | (refine AC_block ?_) | (refine AC_exit ?_) | (refine AC_skip ?_) | (refine AC_ret ?_))
  all_goals (have e : j = l.length := (by omega); subst e; (refine Ends.mk2 (by first | exact .inr rfl | exact .inl rfl) [0,1,2,3] ?_; simp (dsimp := false) (disch := first | omega | assumption | (simp only [List.length_cons, List.length_nil, Go.Sy.cS_len, Go.Sy.cB_len, Go.Sy.cI_len, List.length_replicate, List.length_map, List.length_append, List.length_set, List.length_take, List.length_drop]; omega)) only [push_cast, Nat.reduceAdd, Nat.reduceMul, Nat.reduceSub, Nat.reduceEqDiff, Nat.reduceLT, Nat.reduceLeDiff, Nat.reduceBEq, Int.reduceToNat, Int.reduceEq, Int.reduceLT, Int.reduceLE, Int.reduceAdd, Int.reduceSub, Int.reduceMul, ↓reduceIte, reduceCtorEq, Try.f17, dkR, refD, dkO, diskO]; (repeat (refine And.intro (by (first | omega | assumption | ((try clear hK); first | (simp; done) | (simp; omega) | (simp_all; done) | ((try simp); split <;> first | omega | (simp_all; done) | (simp_all; omega))))) ?_)); try (first | omega | assumption | ((try clear hK); first | (simp; done) | (simp; omega) | (simp_all; done) | ((try simp); split <;> first | omega | (simp_all; done) | (simp_all; omega))))))
end Go.Proofs.Ytdghbmidfebkaaa
