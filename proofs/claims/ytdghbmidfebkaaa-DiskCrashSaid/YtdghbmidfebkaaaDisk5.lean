/- The disk: what a crash leaves. No condition. -/
import Derived.Test.YtdghbmidfebkaaaDisk4
set_option linter.unusedVariables false
set_option linter.unusedSimpArgs false
set_option maxHeartbeats 1000000
set_option maxRecDepth 20000
namespace Go.Proofs.Ytdghbmidfebkaaa
open Go Go.Sy
attribute [local irreducible] AO AL AC OpT ACall Ends DGo DRun Thn Blk Nxt
variable {now old src : List ByteArray} {dirty : List Bool} {n k : Nat} {i : Int} {s : ByteArray} {bits l : List Int}

/-- The choice for the k-th dirty sector. -/
def bitAt (bits : List Int) (k : Nat) : Int := if k < bits.length then bits.getD k default % 4 else 0
/-- What a crash leaves of one sector. -/
def leave (b : Int) (o s : ByteArray) : ByteArray := if b = 0 then o else if b = 2 then s.extract 0 ((s.size : Int) / 2).toNat else if b = 3 then ⟨#[]⟩ else s
/-- The sectors behind the first k choices. -/
def cr (bits l : List Int) (old now : List ByteArray) : Nat → List ByteArray
  | 0 => now
  | k + 1 => (cr bits l old now k).set (l.getD k default).toNat (leave (bitAt bits k) (old.getD (l.getD k default).toNat default) ((cr bits l old now k).getD (l.getD k default).toNat default))
/-- The same, from the sectors as they were. -/
def crR (bits l : List Int) (old now : List ByteArray) : Nat → List ByteArray
  | 0 => now
  | k + 1 => (crR bits l old now k).set (l.getD k default).toNat (leave (bitAt bits k) (old.getD (l.getD k default).toNat default) (now.getD (l.getD k default).toNat default))
theorem cr_zero : cr bits l old now 0 = now := rfl
theorem crR_zero : crR bits l old now 0 = now := rfl
theorem cr_len : (cr bits l old now k).length = now.length := by induction k with
  | zero => rfl
  | succ k ih => simp [cr, ih]
theorem crR_len : (crR bits l old now k).length = now.length := by induction k with
  | zero => rfl
  | succ k ih => simp [crR, ih]
theorem set_getD_self {α : Type} [Inhabited α] (l : List α) (i : Nat) : l.set i (l.getD i default) = l := by
  apply List.ext_getElem?
  intro j
  rw [List.getElem?_set]
  split
  · rename_i h; subst h
    split
    · rename_i h; rw [List.getD_eq_getElem?_getD, List.getElem?_eq_getElem h]; simp
    · rename_i h; rw [List.getElem?_eq_none (by omega)]
  · rfl
theorem bit_0 (h : k < bits.length → bits.getD k default % 4 = 0) : bitAt bits k = 0 := by unfold bitAt; split <;> simp_all
theorem bit_n (h : k < bits.length) : bitAt bits k = bits.getD k default % 4 := by unfold bitAt; rw [if_pos h]
theorem cr_0 (h : k < bits.length → bits.getD k default % 4 = 0) : cr bits l old now (k + 1) = (cr bits l old now k).set (l.getD k default).toNat (old.getD (l.getD k default).toNat default) := by
  rw [cr, bit_0 h]; rfl
theorem cr_1 (h : k < bits.length ∧ bits.getD k default % 4 = 1) : cr bits l old now (k + 1) = cr bits l old now k := by
  rw [cr, bit_n h.1, h.2]; exact set_getD_self _ _
theorem cr_2 (h : k < bits.length ∧ bits.getD k default % 4 = 2) : cr bits l old now (k + 1) =
    (cr bits l old now k).set (l.getD k default).toNat (((cr bits l old now k).getD (l.getD k default).toNat default).extract 0 ((((cr bits l old now k).getD (l.getD k default).toNat default).size : Int) / 2).toNat) := by
  rw [cr, bit_n h.1, h.2]; rfl
theorem cr_3 (h : k < bits.length ∧ bits.getD k default % 4 = 3) : cr bits l old now (k + 1) = (cr bits l old now k).set (l.getD k default).toNat ⟨#[]⟩ := by
  rw [cr, bit_n h.1, h.2]; rfl
theorem crR_0 (h : k < bits.length → bits.getD k default % 4 = 0) : crR bits l old now (k + 1) = (crR bits l old now k).set (l.getD k default).toNat (old.getD (l.getD k default).toNat default) := by
  rw [crR, bit_0 h]; rfl
theorem crR_2 (h : k < bits.length ∧ bits.getD k default % 4 = 2) : crR bits l old now (k + 1) =
    (crR bits l old now k).set (l.getD k default).toNat ((now.getD (l.getD k default).toNat default).extract 0 (((now.getD (l.getD k default).toNat default).size : Int) / 2).toNat) := by
  rw [crR, bit_n h.1, h.2]; rfl
theorem crR_3 (h : k < bits.length ∧ bits.getD k default % 4 = 3) : crR bits l old now (k + 1) = (crR bits l old now k).set (l.getD k default).toNat ⟨#[]⟩ := by
  rw [crR, bit_n h.1, h.2]; rfl

/-! ### the numbers of the dirty sectors differ -/
theorem chg_get {d : List Bool} {n k : Nat} (h : k < (chg d n).length) : ∃ j : Nat, (chg d n)[k]? = some (j : Int) ∧ j < n ∧ d.getD j default = true := by
  have h2 := List.getElem_mem h
  unfold chg at h2
  obtain ⟨j, hj, he⟩ := List.mem_map.1 h2
  obtain ⟨h3, h4⟩ := List.mem_filter.1 hj
  exact ⟨j, by rw [List.getElem?_eq_getElem h]; exact congrArg some he.symm, List.mem_range.1 h3, h4⟩
theorem chg_at {d : List Bool} {n k : Nat} : k < (chg d n).length → 0 ≤ (chg d n).getD k default ∧ (chg d n).getD k default < n := by
  intro h
  obtain ⟨j, h1, h2, _⟩ := chg_get h
  rw [List.getD_eq_getElem?_getD, h1]; simp; omega
theorem chg_ne {d : List Bool} {n i k : Nat} (hi : i < k) (hk : k < (chg d n).length) : (chg d n).getD i default ≠ (chg d n).getD k default := by
  have hn : (chg d n).Nodup := by
    unfold chg
    refine List.Pairwise.map _ (fun a b hab => ?_) (List.Pairwise.filter _ List.nodup_range)
    intro he; exact hab (Int.ofNat.inj he)
  rw [List.getD_eq_getElem?_getD, List.getD_eq_getElem?_getD, List.getElem?_eq_getElem hk, List.getElem?_eq_getElem (by omega : i < (chg d n).length)]
  simp only [Option.getD_some]
  exact (List.pairwise_iff_getElem.1 hn) i k _ _ hi
theorem size_at {b : Nat} (hs : ∀ s ∈ now, s.size ≤ b) (i : Nat) : (now.getD i default).size ≤ b := by
  rw [List.getD_eq_getElem?_getD]
  by_cases h : i < now.length
  · rw [List.getElem?_eq_getElem h]; exact hs _ (List.getElem_mem h)
  · rw [List.getElem?_eq_none (by omega)]; exact Nat.zero_le _
theorem cr_keeps {d : List Bool} {n k j : Nat} (hk : k ≤ j) (hj : j < (chg d n).length) : (cr bits (chg d n) old now k).getD ((chg d n).getD j default).toNat default = now.getD ((chg d n).getD j default).toNat default := by
  induction k with
  | zero => rfl
  | succ k ih =>
    rw [cr, List.getD_eq_getElem?_getD, List.getElem?_set, if_neg, ← List.getD_eq_getElem?_getD, ih (by omega)]
    intro he
    have h1 := chg_at (d := d) (n := n) (k := k) (by omega)
    have h2 := chg_at hj
    exact chg_ne (by omega : k < j) hj (by omega)
theorem cr_eq {d : List Bool} {n k : Nat} (hk : k ≤ (chg d n).length) : crR bits (chg d n) old now k = cr bits (chg d n) old now k := by
  induction k with
  | zero => rfl
  | succ k ih => rw [cr, crR, ih (by omega), cr_keeps (Nat.le_refl k) (by omega)]

def crashI (n : Nat) (now old : List ByteArray) (dirty : List Bool) (z : Bool) (bits : List Int) (j : {j : Nat // j ≤ (chg dirty n).length}) : St :=
  ⟨81, 4, [(0,.pt 0 0), (1,.isl z (cI .u8 bits) bits.length), (5,.isl ((chg dirty n).length == 0) (cI .i64 (chg dirty n)) (chg dirty n).length), (11,.isl ((chg dirty n).length == 0) (cI .i64 (chg dirty n)) (chg dirty n).length),
    (12,.val (.int .i64 (chg dirty n).length)), (13,.val (.int .i64 j.val))],
   [(0, some (.cells [.sl 1 0 n 1, .sl 2 0 n 1, .sl 3 0 n 1] 59)), (1, some (.cells (cS (cr bits (chg dirty n) old now j.val)) 9)), (2, some (.cells (cS old) 9)), (3, some (.cells (cB dirty) 4))]⟩
theorem bits_at (hb : ∀ b ∈ bits, 0 ≤ b ∧ b ≤ 255) (k : Nat) : 0 ≤ bits.getD k default ∧ bits.getD k default ≤ 255 := by
  rw [List.getD_eq_getElem?_getD]
  by_cases h : k < bits.length
  · rw [List.getElem?_eq_getElem h]; exact hb _ (List.getElem_mem h)
  · rw [List.getElem?_eq_none (by omega)]; decide
theorem crash_ok {z : Bool} (hn : n ≤ 1024) (h1 : now.length = n) (h2 : dirty.length = n) (h3 : old.length = n) (hb : ∀ b ∈ bits, 0 ≤ b ∧ b ≤ 255) (hl : bits.length < 2^47) (hs : ∀ s ∈ now, s.size ≤ 65536) :
    ACall Try.prog 18 [.pt 0 0, .isl z (cI .u8 bits) bits.length] (diskO 0 n now old dirty) 4 (.val (.int .i64 (chg dirty n).length))
      (diskO 0 n (cr bits (chg dirty n) old now (chg dirty n).length) (cr bits (chg dirty n) old now (chg dirty n).length) (List.replicate n false)) := by
  have hcl := chg_le (d := dirty) (k := n)
  refine ACall.enter Try.func18 rfl (by simp [Try.ntmps18, diskO]) (by simp [diskO]) ?_
  simp only [entry, idx, diskO, Try.ntmps18, List.length, List.map_cons, List.map_nil, List.append_nil, List.cons_append, List.nil_append, Nat.reduceAdd, Nat.zero_add, List.length_cons, List.length_nil]
  repeat' (first
    | (refine AC_loop_id ?_; refine AC_loop' [0,1,2,3] ([0,1,2,3].length) (crashI n now old dirty z bits) (fun j => (chg dirty n).length - j.val) (⟨0, by omega⟩) rfl (by unfold crashI; simp only [List.cons_append, List.nil_append]; refine Sub.mk2 ?_; (simp (dsimp := false) (disch := first | omega | assumption | (simp only [List.length_cons, List.length_nil, Go.Sy.cS_len, Go.Sy.cB_len, Go.Sy.cI_len, List.length_replicate, List.length_map, List.length_append, List.length_set, List.length_take, List.length_drop]; omega)) only [push_cast, Nat.reduceAdd, Nat.reduceMul, Nat.reduceSub, Nat.reduceEqDiff, Nat.reduceLT, Nat.reduceLeDiff, Nat.reduceBEq, Int.reduceToNat, Int.reduceEq, Int.reduceLT, Int.reduceLE, Int.reduceAdd, Int.reduceSub, Int.reduceMul, ↓reduceIte, reduceCtorEq, diskO, cr_zero, cr_0, cr_1, cr_2, cr_3, islN_all]); (repeat (refine And.intro (by (first | omega | assumption | ((try clear hK); first | (simp; done) | (simp; omega) | (simp_all; done) | ((try simp); split <;> first | omega | (simp_all; done) | (simp_all; omega))))) ?_)); (first | done | (first | omega | assumption | ((try clear hK); first | (simp; done) | (simp; omega) | (simp_all; done) | ((try simp); split <;> first | omega | (simp_all; done) | (simp_all; omega))))); done) ?_; (rintro ⟨j, hj⟩; have hi := chg_at (d := dirty) (n := n) (k := j); have hbj := bits_at hb j; have hlj := cr_len (bits := bits) (l := chg dirty n) (old := old) (now := now) (k := j); have hsz : j < (chg dirty n).length → ((cr bits (chg dirty n) old now j).getD ((chg dirty n).getD j default).toNat default).size ≤ 65536 := (fun h => by rw [cr_keeps (Nat.le_refl j) h]; exact size_at hs _); (simp (dsimp := false) (disch := first | omega | assumption | (simp only [List.length_cons, List.length_nil, Go.Sy.cS_len, Go.Sy.cB_len, Go.Sy.cI_len, List.length_replicate, List.length_map, List.length_append, List.length_set, List.length_take, List.length_drop]; omega)) only [push_cast, Nat.reduceAdd, Nat.reduceMul, Nat.reduceSub, Nat.reduceEqDiff, Nat.reduceLT, Nat.reduceLeDiff, Nat.reduceBEq, Int.reduceToNat, Int.reduceEq, Int.reduceLT, Int.reduceLE, Int.reduceAdd, Int.reduceSub, Int.reduceMul, ↓reduceIte, reduceCtorEq, crashI])))
    | (refine Nxt_id ?_; refine Nxt.mk [0,1,2,3] (⟨j + 1, by omega⟩) rfl (by unfold crashI; simp only [List.cons_append, List.nil_append]; refine Sub.mk2 ?_; (simp (dsimp := false) (disch := first | omega | assumption | (simp only [List.length_cons, List.length_nil, Go.Sy.cS_len, Go.Sy.cB_len, Go.Sy.cI_len, List.length_replicate, List.length_map, List.length_append, List.length_set, List.length_take, List.length_drop]; omega)) only [push_cast, Nat.reduceAdd, Nat.reduceMul, Nat.reduceSub, Nat.reduceEqDiff, Nat.reduceLT, Nat.reduceLeDiff, Nat.reduceBEq, Int.reduceToNat, Int.reduceEq, Int.reduceLT, Int.reduceLE, Int.reduceAdd, Int.reduceSub, Int.reduceMul, ↓reduceIte, reduceCtorEq, diskO, cr_zero, cr_0, cr_1, cr_2, cr_3, islN_all]); (repeat (refine And.intro (by (first | omega | assumption | ((try clear hK); first | (simp; done) | (simp; omega) | (simp_all; done) | ((try simp); split <;> first | omega | (simp_all; done) | (simp_all; omega))))) ?_)); (first | done | (first | omega | assumption | ((try clear hK); first | (simp; done) | (simp; omega) | (simp_all; done) | ((try simp); split <;> first | omega | (simp_all; done) | (simp_all; omega))))); done) (by first | omega | (simp; omega)))
    | (refine AC_seq ?_)
    | (refine AC_region_lit ?_)
    | ((first | refine AL_go rfl (fun K hK => ?_) | refine AL_go0 (fun K hK => ?_) | refine DG_run (fun K hK => ?_))
       (first | refine R_callG (f := 22) [0,1,2,3] 4 false ?_ | refine R_callG (f := 24) [0,1,2,3] 4 false ?_)
       simp (dsimp := false) (disch := first | omega | assumption | (simp only [List.length_cons, List.length_nil, Go.Sy.cS_len, Go.Sy.cB_len, Go.Sy.cI_len, List.length_replicate, List.length_map, List.length_append, List.length_set, List.length_take, List.length_drop]; omega)) only [push_cast, Nat.reduceAdd, Nat.reduceMul, Nat.reduceSub, Nat.reduceEqDiff, Nat.reduceLT, Nat.reduceLeDiff, Nat.reduceBEq, Int.reduceToNat, Int.reduceEq, Int.reduceLT, Int.reduceLE, Int.reduceAdd, Int.reduceSub, Int.reduceMul, ↓reduceIte, reduceCtorEq, diskO, cr_zero, cr_0, cr_1, cr_2, cr_3, islN_all]
       (repeat (refine And.intro (by (first | omega | assumption | ((try clear hK); first | (simp; done) | (simp; omega) | (simp_all; done) | ((try simp); split <;> first | omega | (simp_all; done) | (simp_all; omega))))) ?_)); intro G hG; refine hG _ _ ?_; clear hG G
       (first | refine ⟨_, _, dirty_ok (n := n) (now := now) (old := old) (dirty := dirty) (by (first | omega | assumption | ((try clear hK); first | (simp; done) | (simp; omega) | (simp_all; done) | ((try simp); split <;> first | omega | (simp_all; done) | (simp_all; omega))))) (by (first | omega | assumption | ((try clear hK); first | (simp; done) | (simp; omega) | (simp_all; done) | ((try simp); split <;> first | omega | (simp_all; done) | (simp_all; omega))))), ?_⟩ | refine ⟨_, _, sync_ok (n := n) (now := cr bits (chg dirty n) old now j) (old := old) (dirty := dirty) (by (first | omega | assumption | ((try clear hK); first | (simp; done) | (simp; omega) | (simp_all; done) | ((try simp); split <;> first | omega | (simp_all; done) | (simp_all; omega))))) (by (first | omega | assumption | ((try clear hK); first | (simp; done) | (simp; omega) | (simp_all; done) | ((try simp); split <;> first | omega | (simp_all; done) | (simp_all; omega))))) (by (first | omega | assumption | ((try clear hK); first | (simp; done) | (simp; omega) | (simp_all; done) | ((try simp); split <;> first | omega | (simp_all; done) | (simp_all; omega))))) (by (first | omega | assumption | ((try clear hK); first | (simp; done) | (simp; omega) | (simp_all; done) | ((try simp); split <;> first | omega | (simp_all; done) | (simp_all; omega))))), ?_⟩)
       simp (dsimp := false) (disch := first | omega | assumption | (simp only [List.length_cons, List.length_nil, Go.Sy.cS_len, Go.Sy.cB_len, Go.Sy.cI_len, List.length_replicate, List.length_map, List.length_append, List.length_set, List.length_take, List.length_drop]; omega)) only [push_cast, Nat.reduceAdd, Nat.reduceMul, Nat.reduceSub, Nat.reduceEqDiff, Nat.reduceLT, Nat.reduceLeDiff, Nat.reduceBEq, Int.reduceToNat, Int.reduceEq, Int.reduceLT, Int.reduceLE, Int.reduceAdd, Int.reduceSub, Int.reduceMul, ↓reduceIte, reduceCtorEq, diskO, cr_zero, cr_0, cr_1, cr_2, cr_3, islN_all]
       (repeat (refine And.intro (by (first | omega | assumption | ((try clear hK); first | (simp; done) | (simp; omega) | (simp_all; done) | ((try simp); split <;> first | omega | (simp_all; done) | (simp_all; omega))))) ?_)); (first | refine hK _ _ _ ?_ | refine hK _ _ ?_); clear hK K)
    | ((first | refine AL_go rfl (fun K hK => ?_) | refine AL_go0 (fun K hK => ?_) | refine DG_run (fun K hK => ?_))
       (first | refine R_move _ ?_ | refine R_assign _ ?_ | refine Q_load _ _ ?_ | refine Q_loadAgg _ _ ?_ | refine Q_fieldAddr _ _ _ ?_ | refine Q_indexAddr _ _ _ ?_ | refine R_nilCheck _ ?_ | refine Q_len _ _ ?_ | refine Q_lenStr _ _ ?_ | refine Q_store _ _ _ ?_ | refine Q_sliceStr _ _ _ _ ?_ | refine Q_sliceI _ _ _ _ ?_ | refine Q_bin _ _ _ _ _ ?_)
       simp (dsimp := false) (disch := first | omega | assumption | (simp only [List.length_cons, List.length_nil, Go.Sy.cS_len, Go.Sy.cB_len, Go.Sy.cI_len, List.length_replicate, List.length_map, List.length_append, List.length_set, List.length_take, List.length_drop]; omega)) only [push_cast, Nat.reduceAdd, Nat.reduceMul, Nat.reduceSub, Nat.reduceEqDiff, Nat.reduceLT, Nat.reduceLeDiff, Nat.reduceBEq, Int.reduceToNat, Int.reduceEq, Int.reduceLT, Int.reduceLE, Int.reduceAdd, Int.reduceSub, Int.reduceMul, ↓reduceIte, reduceCtorEq, diskO, cr_zero, cr_0, cr_1, cr_2, cr_3, islN_all]
       (repeat (refine And.intro (by (first | omega | assumption | ((try clear hK); first | (simp; done) | (simp; omega) | (simp_all; done) | ((try simp); split <;> first | omega | (simp_all; done) | (simp_all; omega))))) ?_)); (first | refine hK _ _ _ ?_ | refine hK _ _ ?_); clear hK K)
    | ((first | refine AL_go rfl (fun K hK => ?_) | refine AL_go0 (fun K hK => ?_) | refine DG_run (fun K hK => ?_))
       (first | refine Q_slice _ _ _ _ ?_)
       simp (dsimp := false) (disch := first | omega | assumption | (simp only [List.length_cons, List.length_nil, Go.Sy.cS_len, Go.Sy.cB_len, Go.Sy.cI_len, List.length_replicate, List.length_map, List.length_append, List.length_set, List.length_take, List.length_drop]; omega)) only [push_cast, Nat.reduceAdd, Nat.reduceMul, Nat.reduceSub, Nat.reduceEqDiff, Nat.reduceLT, Nat.reduceLeDiff, Nat.reduceBEq, Int.reduceToNat, Int.reduceEq, Int.reduceLT, Int.reduceLE, Int.reduceAdd, Int.reduceSub, Int.reduceMul, ↓reduceIte, reduceCtorEq, diskO, cr_zero, cr_0, cr_1, cr_2, cr_3, islN_all]
       (repeat (refine And.intro (by (first | omega | assumption | ((try clear hK); first | (simp; done) | (simp; omega) | (simp_all; done) | ((try simp); split <;> first | omega | (simp_all; done) | (simp_all; omega))))) ?_)); (first | refine hK _ _ _ ?_ | refine hK _ _ ?_); clear hK K)
    | ((first | refine AL_go rfl (fun K hK => ?_) | refine AL_go0 (fun K hK => ?_) | refine DG_run (fun K hK => ?_))
       (first | refine Q_sliceEnd _ _ _ _ ?_)
       simp (dsimp := false) (disch := first | omega | assumption | (simp only [List.length_cons, List.length_nil, Go.Sy.cS_len, Go.Sy.cB_len, Go.Sy.cI_len, List.length_replicate, List.length_map, List.length_append, List.length_set, List.length_take, List.length_drop]; omega)) only [push_cast, Nat.reduceAdd, Nat.reduceMul, Nat.reduceSub, Nat.reduceEqDiff, Nat.reduceLT, Nat.reduceLeDiff, Nat.reduceBEq, Int.reduceToNat, Int.reduceEq, Int.reduceLT, Int.reduceLE, Int.reduceAdd, Int.reduceSub, Int.reduceMul, ↓reduceIte, reduceCtorEq, diskO, cr_zero, cr_0, cr_1, cr_2, cr_3, islN_all]
       (repeat (refine And.intro (by (first | omega | assumption | ((try clear hK); first | (simp; done) | (simp; omega) | (simp_all; done) | ((try simp); split <;> first | omega | (simp_all; done) | (simp_all; omega))))) ?_)); (first | refine hK _ _ _ ?_ | refine hK _ _ ?_); clear hK K)
    | ((first | refine AL_guard rfl rfl (fun K1 K2 h1 h2 => ?_) rfl | refine AC_cond_k (fun K1 K2 h1 h2 => ?_) | refine DG_guard rfl rfl (fun K1 K2 h1 h2 => ?_))
       simp (dsimp := false) (disch := first | omega | assumption | (simp only [List.length_cons, List.length_nil, Go.Sy.cS_len, Go.Sy.cB_len, Go.Sy.cI_len, List.length_replicate, List.length_map, List.length_append, List.length_set, List.length_take, List.length_drop]; omega)) only [push_cast, Nat.reduceAdd, Nat.reduceMul, Nat.reduceSub, Nat.reduceEqDiff, Nat.reduceLT, Nat.reduceLeDiff, Nat.reduceBEq, Int.reduceToNat, Int.reduceEq, Int.reduceLT, Int.reduceLE, Int.reduceAdd, Int.reduceSub, Int.reduceMul, ↓reduceIte, reduceCtorEq, diskO, cr_zero, cr_0, cr_1, cr_2, cr_3, islN_all]
       first | (refine ⟨fun hc => ?_, fun hc => ?_⟩ <;> first | (exfalso; omega) | (exfalso; contradiction) | refine h1 ?_ | refine h2 ?_) | refine h1 ?_ | refine h2 ?_
       all_goals clear h1 h2 K1 K2)
    | (refine AC_draw (id := 10) (by kernel_rfl) [⟨0, [], [34, 35, 36, 37, 38, 39, 40, 41], [], [], 0⟩, ⟨1, [0], [34, 35, 36, 37, 38, 39, 40, 41], [], [], 0⟩, ⟨2, [0, 1], [34, 35, 36, 37, 38, 39, 40, 41], [], [], 0⟩, ⟨3, [0, 1, 2], [34, 35, 36, 37, 38, 39, 40, 41], [], [], 0⟩, ⟨4, [], [30, 31, 32, 33, 35, 36, 37, 38, 39, 40, 41], [], [], 0⟩, ⟨5, [], [30, 31, 32, 33, 34, 39], [], [], 0⟩, ⟨6, [5], [30, 31, 32, 33, 34, 39], [], [], 0⟩, ⟨7, [5, 6], [30, 31, 32, 33, 34, 39], [], [], 0⟩, ⟨8, [5, 6, 7], [30, 31, 32, 33, 34, 39], [], [], 0⟩, ⟨9, [], [30, 31, 32, 33, 34, 35, 36, 37, 38], [], [], 0⟩, ⟨10, [5, 6, 7, 8, 9], [30, 31, 32, 33, 34], [], [], 0⟩, ⟨11, [5, 6, 7, 8, 9, 10], [30, 31, 32, 33, 34], [], [], 0⟩, ⟨12, [0, 1, 2, 3, 4, 5, 6, 7, 8, 9, 10, 11], [], [], [], 0⟩, ⟨13, [0, 1, 2, 3, 4, 5, 6, 7, 8, 9, 10, 11, 12], [], [], [2], 0⟩] (by kernel_rfl) (by kernel_rfl) (by kernel_rfl) ?_)
    | (refine AC_draw (id := 12) (by kernel_rfl) [⟨0, [], [49, 50, 51, 52, 53, 54, 55, 56, 57, 58, 59, 60, 61, 62, 63, 64, 65, 66], [], [], 0⟩, ⟨1, [0], [49, 50, 51, 52, 53, 54, 55, 56, 57, 58, 59, 60, 61, 62, 63, 64, 65, 66], [], [], 0⟩, ⟨2, [0, 1], [49, 50, 51, 52, 53, 54, 55, 56, 57, 58, 59, 60, 61, 62, 63, 64, 65, 66], [], [], 0⟩, ⟨3, [0, 1, 2], [49, 50, 51, 52, 53, 54, 55, 56, 57, 58, 59, 60, 61, 62, 63, 64, 65, 66], [], [], 0⟩, ⟨4, [], [45, 46, 47, 48, 50, 51, 52, 53, 54, 55, 56, 57, 58, 59, 60, 61, 62, 63, 64, 65, 66], [], [], 0⟩, ⟨5, [], [45, 46, 47, 48, 49, 54, 57, 58, 59, 60, 61, 62, 63, 64, 65], [], [], 0⟩, ⟨6, [5], [45, 46, 47, 48, 49, 54, 57, 58, 59, 60, 61, 62, 63, 64, 65], [], [], 0⟩, ⟨7, [5, 6], [45, 46, 47, 48, 49, 54, 57, 58, 59, 60, 61, 62, 63, 64, 65], [], [], 0⟩, ⟨8, [5, 6, 7], [45, 46, 47, 48, 49, 54, 57, 58, 59, 60, 61, 62, 63, 64, 65], [], [], 0⟩, ⟨9, [], [45, 46, 47, 48, 49, 50, 51, 52, 53, 57, 58, 59, 60, 61, 62, 63, 64, 65], [], [], 0⟩, ⟨10, [5, 6, 7, 8, 9], [45, 46, 47, 48, 49, 57, 58, 59, 60, 61, 62, 63, 64, 65], [], [], 0⟩, ⟨11, [5, 6, 7, 8, 9, 10], [45, 46, 47, 48, 49, 57, 58, 59, 60, 61, 62, 63, 64, 65], [], [], 0⟩, ⟨12, [], [45, 46, 47, 48, 49, 50, 51, 52, 53, 54, 55, 56, 61], [], [], 0⟩, ⟨13, [12], [45, 46, 47, 48, 49, 50, 51, 52, 53, 54, 55, 56, 61], [], [], 0⟩, ⟨14, [12, 13], [45, 46, 47, 48, 49, 50, 51, 52, 53, 54, 55, 56, 61], [], [], 0⟩, ⟨15, [12, 13, 14], [45, 46, 47, 48, 49, 50, 51, 52, 53, 54, 55, 56, 61], [], [], 0⟩, ⟨16, [], [45, 46, 47, 48, 49, 50, 51, 52, 53, 54, 55, 56, 57, 58, 59, 60], [], [], 0⟩, ⟨17, [12, 13, 14, 15, 16], [45, 46, 47, 48, 49, 50, 51, 52, 53, 54, 55, 56], [], [], 0⟩, ⟨18, [12, 13, 14, 15, 16, 17], [45, 46, 47, 48, 49, 50, 51, 52, 53, 54, 55, 56], [], [], 0⟩, ⟨19, [12, 13, 14, 15, 16, 17, 18], [45, 46, 47, 48, 49, 50, 51, 52, 53, 54, 55, 56], [], [], 0⟩, ⟨20, [12, 13, 14, 15, 16, 17, 18, 19], [45, 46, 47, 48, 49, 50, 51, 52, 53, 54, 55, 56], [], [], 0⟩, ⟨21, [5, 6, 7, 8, 9, 10, 11, 12, 13, 14, 15, 16, 17, 18, 19, 20], [45, 46, 47, 48, 49], [], [], 0⟩, ⟨22, [0, 1, 2, 3, 4, 5, 6, 7, 8, 9, 10, 11, 12, 13, 14, 15, 16, 17, 18, 19, 20, 21], [], [], [], 0⟩, ⟨23, [0, 1, 2, 3, 4, 5, 6, 7, 8, 9, 10, 11, 12, 13, 14, 15, 16, 17, 18, 19, 20, 21, 22], [], [], [2], 0⟩] (by kernel_rfl) (by kernel_rfl) (by kernel_rfl) ?_)
    | ((first | refine DG_next' (by kernel_rfl) (fun K hK => ?_) | refine DG_nil (by kernel_rfl) (fun K hK => ?_))
       simp only [↓Go.Sy.dsnE_some, ↓Go.Sy.dsnE_none, ↓Go.Sy.dsnE_nil, ↓Go.Sy.dsnO_snoc, ↓Go.Sy.dsnO_nil, ↓Go.Sy.nidAt_snoc, ↓Go.Sy.nidAt_nil, push_cast, Nat.reduceLeDiff, Nat.reduceSub, Nat.reduceBEq, Nat.reduceEqDiff, Nat.reduceAdd, Nat.reduceLT, ↓reduceIte, reduceCtorEq]
       refine hK _ _ _ ?_; clear hK K)
    | (refine DG_go ?_)
    | (refine AL_nil ?_) | (refine Thn_normal ?_) | (refine Thn_ret ?_) | (refine Thn_exit ?_) | (refine Blk_normal ?_) | (refine Blk_ret ?_) | (refine Blk_here ?_) | (refine Blk_other rfl ?_) | (refine AC_block ?_) | (refine AC_exit ?_) | (refine AC_skip ?_) | (refine AC_ret ?_))
  all_goals (have e : j = (chg dirty n).length := (by omega); subst e; (refine Ends.mk2 (by first | exact .inr rfl | exact .inl rfl) [0,1,2,3] ?_; simp (dsimp := false) (disch := first | omega | assumption | (simp only [List.length_cons, List.length_nil, Go.Sy.cS_len, Go.Sy.cB_len, Go.Sy.cI_len, List.length_replicate, List.length_map, List.length_append, List.length_set, List.length_take, List.length_drop]; omega)) only [push_cast, Nat.reduceAdd, Nat.reduceMul, Nat.reduceSub, Nat.reduceEqDiff, Nat.reduceLT, Nat.reduceLeDiff, Nat.reduceBEq, Int.reduceToNat, Int.reduceEq, Int.reduceLT, Int.reduceLE, Int.reduceAdd, Int.reduceSub, Int.reduceMul, ↓reduceIte, reduceCtorEq, Try.f18]; (repeat (refine And.intro (by (first | omega | assumption | ((try clear hK); first | (simp; done) | (simp; omega) | (simp_all; done) | ((try simp); split <;> first | omega | (simp_all; done) | (simp_all; omega))))) ?_)); try (first | omega | assumption | ((try clear hK); first | (simp; done) | (simp; omega) | (simp_all; done) | ((try simp); split <;> first | omega | (simp_all; done) | (simp_all; omega))))))
end Go.Proofs.Ytdghbmidfebkaaa
