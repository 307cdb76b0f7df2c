/- The network: the law NetworkBlocked as a call. No condition. -/
import Derived.Test.YtphpjgfhdoobjaaNet19
import Derived.Test.YtphpjgfhdoobjaaNet25
set_option linter.unusedVariables false
set_option linter.unusedSectionVars false
set_option linter.unusedSimpArgs false
set_option maxHeartbeats 8000000
set_option maxRecDepth 20000
namespace Go.Proofs.Ytphpjgfhdoobjaa
open Go Go.Sy
attribute [local irreducible] AO AL AC OpT ACall Ends DGo DRun Thn Blk Nxt
variable {n a b v A B : Int} {i j k t d len p kk : Nat} {z z2 : Bool} {m : Msg} {l S : List Pk} {next : Int} {f : List (List Int × Bool)}

def pw (k : Nat) : Nat := 2 ^ k
def low (k : Nat) (a : Int) : Int := andI a ((pw k : Nat) - 1 : Int)
theorem low_def : andI a ((pw k : Nat) - 1 : Int) = low k a := rfl
theorem sh1 (h : k ≤ 6) : IntKind.u16.wrap (1 * 2 ^ min k IntKind.u16.bits) = ((pw k : Nat) : Int) := by
  have := u_shl (x := 1) (j := k) (by omega) (by
    have := Nat.pow_le_pow_right (show 0 < 2 by decide) h
    have e : (2 : Nat) ^ 6 = 64 := rfl
    omega)
  rw [Nat.one_mul] at this
  exact this
theorem few_l (ha : 0 ≤ a ∧ a ≤ 65535) (hk : k ≤ 6) : few k (low k a) := few_low ha (by omega)
def g1 (k : Nat) (a b : Int) : List (List Int × Bool) := gridF (low k a) (low k b) true [] 16
def g2 (k : Nat) (a b : Int) : List (List Int × Bool) := gridF (low k a) (low k b) false (g1 k a b) 16
theorem b_block1 (ha : 0 ≤ a ∧ a ≤ 65535) (hb : 0 ≤ b ∧ b ≤ 65535) (hk : k ≤ 6) : ACall Try.prog 17 [.pt 0 0, .val (.int .u16 (low k a)), .val (.int .u16 (low k b)), .val (.bool true)] (n0 k 0 []) 2 (.val (.int .i64 0)) (n0 k 0 (g1 k a b)) :=
  block_ok0 (few_fit (few_l ha hk) (few_l hb hk))
theorem b_block2 (ha : 0 ≤ a ∧ a ≤ 65535) (hb : 0 ≤ b ∧ b ≤ 65535) (hk : k ≤ 6) (hl : l.length = len) : ACall Try.prog 17 [.pt 0 0, .val (.int .u16 (low k a)), .val (.int .u16 (low k b)), .val (.bool false)] (n1x k next l len (g1 k a b)) 3 (.val (.int .i64 0)) (n1x k next l len (g2 k a b)) := by
  subst hl
  exact block_ok (few_fit (few_l ha hk) (few_l hb hk))
theorem bm_pty (hi : i < k * k) : pty k (fk k i : Nat) = true ∧ pty k (mk k i : Nat) = true := by
  have h1 := fk_lt hi
  have h2 := mk_lt (k := k) (i := i) (by omega)
  unfold pty; simp; omega
theorem b_send (h : i < k * k) (h4 : i < 400) (h0 : 0 < i) : ACall Try.prog 12 [.pt 0 0, .agg (mC (bm k i))] (n1x k i (bq k i) i f) 2 (.val (.int .i64 0)) (n1x k ((i : Int) + 1) (bq k (i + 1)) (i + 1) f) := by
  have := send_ok (n := k) (next := i) (l := bq k i) (m := bm k i) (f := f) (bm_pty h).1 (bm_pty h).2 (by rw [bq_len]; exact h4) (by omega) (by omega)
  rw [n1_x bq_len, bq_len, ← bq_s] at this
  exact this
theorem b_send0 (h : i < k * k) (h0 : i = 0) : ACall Try.prog 12 [.pt 0 0, .agg (mC (bm k i))] (n0 k i f) 2 (.val (.int .i64 0)) (n1x k ((i : Int) + 1) (bq k (i + 1)) (i + 1) f) := by
  subst h0
  exact send_ok0 (m := bm k 0) (bm_pty h).1 (bm_pty h).2 (by decide) (by decide)
theorem b_as (hi : i < k * k) (hk : k ≤ 6) (h0 : 0 < k) : asB (g1 k a b) [((bp k i).fr), ((bp k i).to)] = shut (low k a) (low k b) (fk k i) (mk k i) :=
  shut_as (by have := fk_lt hi; omega) (by have := mk_lt (k := k) (i := i) h0; omega)
theorem b_shut (hi : i < kk) (hkk : kk = k * k) (hk : k ≤ 6) (h0 : 0 < k) (h : shut (low k a) (low k b) (fk k i) (mk k i) = true) :
    ACall Try.prog 18 [.pt 0 0, .val (.int .i64 i)] (n1x k next (rest (low k a) (low k b) k kk i) (rest (low k a) (low k b) k kk i).length (g1 k a b)) 3 (.tup [.agg (pC zPk), .val (.int .i64 10)]) (n1x k next (rest (low k a) (low k b) k kk (i + 1)) (rest (low k a) (low k b) k kk (i + 1)).length (g1 k a b)) := by
  have hle : kk ≤ 36 := by rw [hkk]; exact Nat.mul_le_mul hk hk
  obtain ⟨q, h1, h2⟩ := rest_at (a := low k a) (b := low k b) (k := k) hi
  rw [rest_shut h]
  exact take_shut (Nat.le_trans rest_le (by omega)) h1 (by rw [h2, b_as (by omega) hk h0]; exact h)
theorem b_open (hi : i < kk) (hkk : kk = k * k) (hk : k ≤ 6) (h0 : 0 < k) (h : shut (low k a) (low k b) (fk k i) (mk k i) = false) :
    ACall Try.prog 18 [.pt 0 0, .val (.int .i64 i)] (n1x k next (rest (low k a) (low k b) k kk i) (rest (low k a) (low k b) k kk i).length (g1 k a b)) 3 (.tup [.agg (pC (bp k i)), .val (.int .i64 0)]) (n1x k next (rest (low k a) (low k b) k kk (i + 1)) (rest (low k a) (low k b) k kk (i + 1)).length (g1 k a b)) := by
  have hle : kk ≤ 36 := by rw [hkk]; exact Nat.mul_le_mul hk hk
  obtain ⟨q, h1, h2⟩ := rest_at (a := low k a) (b := low k b) (k := k) hi
  have := take_ok (n := k) (next := next) (f := g1 k a b) (Nat.le_trans rest_le (by omega)) h1 (by rw [h2, b_as (by omega) hk h0]; exact h)
  rw [h2, ← rm_len (ix_lt h1), rest_open hi h h1 h2] at this
  exact this
/-! ### the last loop -/
def cto (x : Int) (l : List Pk) : Nat := (l.filter fun p => decide (p.to = x)).length
theorem cto_cons {x : Int} {q : Pk} : cto x (q :: l) = (if q.to = x then 1 else 0) + cto x l := by
  unfold cto
  by_cases h : q.to = x
  · rw [List.filter_cons_of_pos (by simp [h]), if_pos h, List.length_cons]; omega
  · rw [List.filter_cons_of_neg (by simp [h]), if_neg h]; omega
theorem cto_app {x : Int} {l m : List Pk} : cto x (l ++ m) = cto x l + cto x m := by unfold cto; rw [List.filter_append, List.length_append]
theorem cto_rm {x : Int} (hi : i < l.length) : cto x l = (if (l.getD i default).to = x then 1 else 0) + cto x (rm l i) := by
  have e : l = l.take i ++ l.getD i default :: l.drop (i + 1) := by
    have : l.drop i = l.getD i default :: l.drop (i + 1) := by
      rw [List.drop_eq_getElem_cons hi]; simp [List.getD_eq_getElem?_getD, hi]
    rw [← this, List.take_append_drop]
  unfold rm
  conv => lhs; rw [e]
  rw [cto_app, cto_cons, cto_app]; omega
/-- What is under way behind j packets of a list that were received. -/
def left (k kk : Nat) (W : List Pk) (j : Nat) (S : List Pk) : Prop := S.length = W.length - j ∧ (∀ x, cto x S = cto x (W.drop j)) ∧ ∀ q ∈ S, q ∈ bq k kk
def nq (k : Nat) (a b : Int) (W : List Pk) (j : Nat) (S : List Pk) : Nat := (ix (opn (g2 k a b) (W.getD j default).to) S).toNat
theorem left_hit {W : List Pk} (h : left k kk W j S) (hj : j < W.length) (hkk : kk = k * k) (hk : k ≤ 6) (h0 : 0 < k) : ix (opn (g2 k a b) (W.getD j default).to) S = (nq k a b W j S : Nat) := by
  refine ix_or.resolve_left (fun hn => ?_)
  obtain ⟨h1, h2, h3⟩ := h
  have hc : 0 < cto (W.getD j default).to S := by
    rw [h2, List.drop_eq_getElem_cons hj, cto_cons]
    rw [List.getD_eq_getElem?_getD, List.getElem?_eq_getElem hj, Option.getD_some, if_pos rfl]; omega
  have : ∃ q ∈ S, q.to = (W.getD j default).to := by
    unfold cto at hc
    obtain ⟨q, hq⟩ := List.exists_mem_of_length_pos hc
    rw [List.mem_filter] at hq
    exact ⟨q, hq.1, of_decide_eq_true hq.2⟩
  obtain ⟨q, hq, hqt⟩ := this
  unfold ix at hn
  cases hf : S.findIdx? (opn (g2 k a b) (W.getD j default).to) with
  | some i => rw [hf] at hn; simp at hn
  | none =>
    rw [List.findIdx?_eq_none_iff] at hf
    have := hf q hq
    obtain ⟨i, hi, rfl⟩ := bq_mem (h3 q hq)
    unfold opn at this
    have hop : asB (g2 k a b) [(bp k i).fr, (bp k i).to] = false := open_as (by have := fk_lt (k := k) (i := i) (by omega); omega) (by have := mk_lt (k := k) (i := i) h0; omega)
    rw [hop, hqt] at this
    simp at this
theorem left_to {W : List Pk} (h : left k kk W j S) (hj : j < W.length) (hkk : kk = k * k) (hk : k ≤ 6) (h0 : 0 < k) : (S.getD (nq k a b W j S) default).to = (W.getD j default).to := by
  have hx := left_hit (a := a) (b := b) h hj hkk hk h0
  generalize nq k a b W j S = q at hx
  unfold ix at hx
  cases hf : S.findIdx? (opn (g2 k a b) (W.getD j default).to) with
  | none => rw [hf] at hx; simp at hx
  | some i =>
    rw [hf] at hx
    have e : i = q := by simp at hx; omega
    subst e
    obtain ⟨hi, hp, _⟩ := List.findIdx?_eq_some_iff_getElem.1 hf
    unfold opn at hp
    rw [Bool.and_eq_true] at hp
    rw [List.getD_eq_getElem?_getD, List.getElem?_eq_getElem hi]
    exact of_decide_eq_true hp.1
theorem left_s {W : List Pk} (h : left k kk W j S) (hj : j < W.length) (hkk : kk = k * k) (hk : k ≤ 6) (h0 : 0 < k) : left k kk W (j + 1) (rm S (nq k a b W j S)) := by
  have hx := ix_lt (left_hit (a := a) (b := b) h hj hkk hk h0)
  have ht := left_to (a := a) (b := b) h hj hkk hk h0
  obtain ⟨h1, h2, h3⟩ := h
  refine ⟨by rw [rm_len hx, h1]; omega, fun x => ?_, fun q hq => h3 q (rm_mem hq)⟩
  have e1 := cto_rm (x := x) hx
  have e2 := h2 x
  rw [List.drop_eq_getElem_cons hj, cto_cons] at e2
  rw [ht] at e1
  have e3 : W[j] = W.getD j default := by rw [List.getD_eq_getElem?_getD, List.getElem?_eq_getElem hj, Option.getD_some]
  rw [e3] at e2
  omega
theorem b_next {W : List Pk} (h : left k kk W j S) (hj : j < W.length) (hkk : kk = k * k) (hk : k ≤ 6) (h0 : 0 < k) (hW : W.length ≤ 36) (hm : ∀ q ∈ W, q ∈ bq k kk) :
    ACall Try.prog 13 [.pt 0 0, .val (.int .i64 (W.getD j default).to)] (n1x k next S S.length (g2 k a b)) 3 (.tup [.agg (pC (S.getD (nq k a b W j S) default)), .val (.int .i64 0)]) (n1x k next (rm S (nq k a b W j S)) (rm S (nq k a b W j S)).length (g2 k a b)) := by
  have hx := left_hit (a := a) (b := b) h hj hkk hk h0
  obtain ⟨i, hi, e⟩ := bq_mem (hm _ (mem_at hj))
  have hp : pty k (W.getD j default).to = true := by rw [e]; exact (bm_pty (by omega)).2
  have := next_ok (n := k) (next := next) (f := g2 k a b) (by rw [h.1]; omega) hp hx
  rw [← rm_len (ix_lt hx)] at this
  exact this
theorem b_all (h : l.length ≤ 1000) : ACall Try.prog 15 [.pt 0 0] (n1x k next l l.length f) 3 (.isl false (cR l) l.length) (n1x k next l l.length f) := all_f h
/-! ### the law -/
def b1I (k kk : Nat) (a b : Int) (i : {i : Nat // i ≤ kk}) : St :=
  ⟨174, 0, [(1,.val (.int .u16 (low k a))), (2,.val (.int .u16 (low k b))), (7,.val (.int .i64 k)), (8,.pt 0 0), (57,.val (.int .i64 kk)), (58,.val (.int .i64 i.val))],
   [(0, some (.cells [.val (.int .i64 k), .val (.int .i64 i.val), nilOr i.val 2 24, .mp 1] 80)), (1, some (.map true 2 (bV (g1 k a b))))] ++ nilOb i.val 2 (cR (bq k i.val)) 41⟩
def b2I (k kk : Nat) (a b : Int) (i : {i : Nat // i ≤ kk}) : St :=
  ⟨174, 0, [(1,.val (.int .u16 (low k a))), (2,.val (.int .u16 (low k b))), (7,.val (.int .i64 k)), (8,.pt 0 0), (74,.val (.int .i64 kk)), (75,.val (.int .i64 i.val))],
   [(0, some (.cells [.val (.int .i64 k), .val (.int .i64 kk), .sl 2 0 (rest (low k a) (low k b) k kk i.val).length 24, .mp 1] 80)), (1, some (.map true 2 (bV (g1 k a b)))), (2, some (.cells (cR (rest (low k a) (low k b) k kk i.val)) 41))]⟩
def b3I (k kk : Nat) (a b : Int) (W : List Pk) (x : {x : Nat × List Pk // x.1 ≤ W.length ∧ left k kk W x.1 x.2}) : St :=
  ⟨174, 0, [(8,.pt 0 0), (147,.isl false (cR W) W.length), (148,.val (.int .i64 W.length)), (149,.val (.int .i64 x.val.1))],
   [(0, some (.cells [.val (.int .i64 k), .val (.int .i64 kk), .sl 2 0 x.val.2.length 24, .mp 1] 80)), (1, some (.map true 2 (bV (g2 k a b)))), (2, some (.cells (cR x.val.2) 41))]⟩
def bS1 (k kk : Nat) (a b : Int) : St :=
  ⟨174, 0, [(1,.val (.int .u16 (low k a))), (2,.val (.int .u16 (low k b))), (7,.val (.int .i64 k)), (8,.pt 0 0)],
   [(0, some (.cells [.val (.int .i64 k), .val (.int .i64 kk), .sl 2 0 kk 24, .mp 1] 80)), (1, some (.map true 2 (bV (g1 k a b)))), (2, some (.cells (cR (bq k kk)) 41))]⟩
def bS2 (k kk : Nat) (a b : Int) (W : List Pk) : St :=
  ⟨174, 0, [(1,.val (.int .u16 (low k a))), (2,.val (.int .u16 (low k b))), (8,.pt 0 0)],
   [(0, some (.cells [.val (.int .i64 k), .val (.int .i64 kk), .sl 2 0 W.length 24, .mp 1] 80)), (1, some (.map true 2 (bV (g1 k a b)))), (2, some (.cells (cR W) 41))]⟩
theorem blocked_3 {W : List Pk} (ha : 0 ≤ a ∧ a ≤ 65535) (hb : 0 ≤ b ∧ b ≤ 65535) (hk6 : k ≤ 6) (hk0 : 0 < k) (hkn : kk = k * k) (hW : W.length ≤ 36) (hWm : ∀ q ∈ W, q ∈ bq k kk) (hW0 : left k kk W 0 W) :
    AC Try.prog (cAt [1, 1, 1, 1, 1, 1, 1, 1] (Try.f5.body.getD .skip)) ((fun e x st => Go.Sy.Ends Try.prog Try.f5 [] 0 (.val (.bool true)) [] e st)) 3 (bS2 k kk a b W) := by
  simp (dsimp := false) (disch := first | exact vD | fail) only [push_cast, List.reduceReplicate, Nat.reduceAdd, Nat.reduceMul, Nat.reduceSub, Nat.reduceEqDiff, Nat.reduceLT, Nat.reduceLeDiff, Nat.reduceBEq, Int.reduceToNat, Int.reduceEq, Int.reduceLT, Int.reduceLE, Int.reduceAdd, Int.reduceSub, Int.reduceMul, ↓reduceIte, reduceCtorEq, bS2]
  repeat' (first
    | (refine AC_loop_id ?_; refine AC_loop' [0,1,2] ([0,1,2].length) (b3I k kk a b W) (fun x => W.length - x.val.1) (⟨(0, W), by exact ⟨Nat.zero_le _, hW0⟩⟩) rfl (by unfold b3I; (try simp only [List.cons_append, List.nil_append]); refine Sub.mk2 ?_; (simp (dsimp := false) (disch := first | exact vD | fail) only [push_cast, List.reduceReplicate, Nat.reduceAdd, Nat.reduceMul, Nat.reduceSub, Nat.reduceEqDiff, Nat.reduceLT, Nat.reduceLeDiff, Nat.reduceBEq, Int.reduceToNat, Int.reduceEq, Int.reduceLT, Int.reduceLE, Int.reduceAdd, Int.reduceSub, Int.reduceMul, ↓reduceIte, reduceCtorEq, n1x, pc_load]); (repeat (refine aI ?_)); (first | done | (first | exact vI | fail)); done) ?_; (rintro ⟨⟨j, S⟩, hj, hS⟩; dsimp only at hj hS; have hto := fun h : j < W.length => left_to (a := a) (b := b) hS h hkn hk6 hk0; have hSl := hS.1; rcases Nat.lt_or_eq_of_le hj with hjl | hjl <;> (simp (dsimp := false) (disch := first | exact vD | fail) only [push_cast, List.reduceReplicate, Nat.reduceAdd, Nat.reduceMul, Nat.reduceSub, Nat.reduceEqDiff, Nat.reduceLT, Nat.reduceLeDiff, Nat.reduceBEq, Int.reduceToNat, Int.reduceEq, Int.reduceLT, Int.reduceLE, Int.reduceAdd, Int.reduceSub, Int.reduceMul, ↓reduceIte, reduceCtorEq, b3I])))
    | (refine Nxt_id ?_; refine Nxt.mk [0,1,2] (⟨(j + 1, rm S (nq k a b W j S)), ⟨by omega, left_s hS hjl hkn hk6 hk0⟩⟩) rfl (by unfold b3I; (try simp only [List.cons_append, List.nil_append]); refine Sub.mk2 ?_; (simp (dsimp := false) (disch := first | exact vD | fail) only [push_cast, List.reduceReplicate, Nat.reduceAdd, Nat.reduceMul, Nat.reduceSub, Nat.reduceEqDiff, Nat.reduceLT, Nat.reduceLeDiff, Nat.reduceBEq, Int.reduceToNat, Int.reduceEq, Int.reduceLT, Int.reduceLE, Int.reduceAdd, Int.reduceSub, Int.reduceMul, ↓reduceIte, reduceCtorEq, n1x, pc_load]); (repeat (refine aI ?_)); (first | done | (first | exact vI | fail)); done) (by first | omega | (simp; done) | (simp; omega)))
    | (refine AC_seq ?_)
    | (refine AC_region_lit ?_)
    | ((first | refine AL_go rfl (fun K hK => ?_) | refine AL_go0 (fun K hK => ?_) | refine DG_run (fun K hK => ?_))
       (first | refine R_callG (f := 17) [0,1,2] 3 false ?_ | refine R_callG (f := 13) [0,1,2] 3 false ?_)
       simp (dsimp := false) (disch := first | exact vD | fail) only [push_cast, List.reduceReplicate, Nat.reduceAdd, Nat.reduceMul, Nat.reduceSub, Nat.reduceEqDiff, Nat.reduceLT, Nat.reduceLeDiff, Nat.reduceBEq, Int.reduceToNat, Int.reduceEq, Int.reduceLT, Int.reduceLE, Int.reduceAdd, Int.reduceSub, Int.reduceMul, ↓reduceIte, reduceCtorEq, n1x, pc_load]
       (repeat (refine aI ?_)); intro G hG; refine hG _ _ ?_; clear hG G
       (first | refine ⟨_, _, b_block2 ha hb hk6 rfl, ?_⟩ | refine ⟨_, _, b_next hS hjl hkn hk6 hk0 hW hWm, ?_⟩)
       simp (dsimp := false) (disch := first | exact vD | fail) only [push_cast, List.reduceReplicate, Nat.reduceAdd, Nat.reduceMul, Nat.reduceSub, Nat.reduceEqDiff, Nat.reduceLT, Nat.reduceLeDiff, Nat.reduceBEq, Int.reduceToNat, Int.reduceEq, Int.reduceLT, Int.reduceLE, Int.reduceAdd, Int.reduceSub, Int.reduceMul, ↓reduceIte, reduceCtorEq, n1x, pc_load]
       (repeat (refine aI ?_)); (first | refine hK _ _ _ ?_ | refine hK _ _ ?_); clear hK K)
    | ((first | refine AL_go rfl (fun K hK => ?_) | refine AL_go0 (fun K hK => ?_) | refine DG_run (fun K hK => ?_))
       (first
        | (refine R_callG (f := 15) [0,1,2] 3 false ?_
           simp (dsimp := false) (disch := first | exact vD | fail) only [push_cast, List.reduceReplicate, Nat.reduceAdd, Nat.reduceMul, Nat.reduceSub, Nat.reduceEqDiff, Nat.reduceLT, Nat.reduceLeDiff, Nat.reduceBEq, Int.reduceToNat, Int.reduceEq, Int.reduceLT, Int.reduceLE, Int.reduceAdd, Int.reduceSub, Int.reduceMul, ↓reduceIte, reduceCtorEq, n1x, pc_load]
           (repeat (refine aI ?_)); intro G hG; refine hG _ _ ?_; clear hG G
           refine ⟨_, _, b_all (by omega), ?_⟩
           simp (dsimp := false) (disch := first | exact vD | fail) only [push_cast, List.reduceReplicate, Nat.reduceAdd, Nat.reduceMul, Nat.reduceSub, Nat.reduceEqDiff, Nat.reduceLT, Nat.reduceLeDiff, Nat.reduceBEq, Int.reduceToNat, Int.reduceEq, Int.reduceLT, Int.reduceLE, Int.reduceAdd, Int.reduceSub, Int.reduceMul, ↓reduceIte, reduceCtorEq, n1x, pc_load]
           (repeat (refine aI ?_)); (first | refine hK _ _ _ ?_ | refine hK _ _ ?_); clear hK K)
        | (refine R_callG (f := 15) [0,1,2] 3 false ?_
           simp (dsimp := false) (disch := first | exact vD | fail) only [push_cast, List.reduceReplicate, Nat.reduceAdd, Nat.reduceMul, Nat.reduceSub, Nat.reduceEqDiff, Nat.reduceLT, Nat.reduceLeDiff, Nat.reduceBEq, Int.reduceToNat, Int.reduceEq, Int.reduceLT, Int.reduceLE, Int.reduceAdd, Int.reduceSub, Int.reduceMul, ↓reduceIte, reduceCtorEq, n1x, pc_load]
           (repeat (refine aI ?_)); intro G hG; refine hG _ _ ?_; clear hG G
           refine ⟨_, _, b_all (by omega), ?_⟩
           simp (dsimp := false) (disch := first | exact vD | fail) only [push_cast, List.reduceReplicate, Nat.reduceAdd, Nat.reduceMul, Nat.reduceSub, Nat.reduceEqDiff, Nat.reduceLT, Nat.reduceLeDiff, Nat.reduceBEq, Int.reduceToNat, Int.reduceEq, Int.reduceLT, Int.reduceLE, Int.reduceAdd, Int.reduceSub, Int.reduceMul, ↓reduceIte, reduceCtorEq, n1x, pc_load]
           (repeat (refine aI ?_)); (first | refine hK _ _ _ ?_ | refine hK _ _ ?_); clear hK K)))
    | ((first | refine AL_go rfl (fun K hK => ?_) | refine AL_go0 (fun K hK => ?_) | refine DG_run (fun K hK => ?_))
       (first | refine R_move _ ?_ | refine R_assign _ ?_ | refine Q_load _ _ ?_ | refine Q_loadAgg _ _ ?_ | refine Q_fieldAddr _ _ _ ?_ | refine Q_indexAddr _ _ _ ?_ | refine Q_indexArr _ _ _ ?_ | refine Q_len _ _ ?_ | refine Q_lenStr _ _ ?_ | refine Q_pick _ _ _ ?_ | refine Q_not _ _ ?_ | refine Q_neg _ _ ?_ | refine Q_extract _ _ ?_ | refine R_alloc _ ?_ | refine Q_store _ _ _ ?_ | refine Q_build _ _ ?_ | refine Q_buildArr _ _ ?_ | refine Q_convert _ _ _ ?_ | refine Q_eqAgg _ _ _ _ ?_ | refine Q_neqAgg _ _ _ _ ?_ | refine Q_neqSelf _ _ _ _ ?_ | refine Q_bin _ _ _ _ _ ?_)
       simp (dsimp := false) (disch := first | exact vD | fail) only [push_cast, List.reduceReplicate, Nat.reduceAdd, Nat.reduceMul, Nat.reduceSub, Nat.reduceEqDiff, Nat.reduceLT, Nat.reduceLeDiff, Nat.reduceBEq, Int.reduceToNat, Int.reduceEq, Int.reduceLT, Int.reduceLE, Int.reduceAdd, Int.reduceSub, Int.reduceMul, ↓reduceIte, reduceCtorEq, n1x, pc_load]
       (repeat (refine aI ?_)); (first | refine hK _ _ _ ?_ | refine hK _ _ ?_); clear hK K)
    | ((first | refine AL_go rfl (fun K hK => ?_) | refine AL_go0 (fun K hK => ?_) | refine DG_run (fun K hK => ?_))
       (first | refine Q_eqnil _ _ _ _ ?_ | refine Q_neqnil _ _ _ _ ?_)
       simp (dsimp := false) (disch := first | exact vD | fail) only [push_cast, List.reduceReplicate, Nat.reduceAdd, Nat.reduceMul, Nat.reduceSub, Nat.reduceEqDiff, Nat.reduceLT, Nat.reduceLeDiff, Nat.reduceBEq, Int.reduceToNat, Int.reduceEq, Int.reduceLT, Int.reduceLE, Int.reduceAdd, Int.reduceSub, Int.reduceMul, ↓reduceIte, reduceCtorEq, n1x, pc_load]
       (repeat (refine aI ?_)); (first | refine hK _ _ _ ?_ | refine hK _ _ ?_); clear hK K)
    | ((first | refine AL_guard rfl rfl (fun K1 K2 h1 h2 => ?_) rfl | refine AC_cond_k (fun K1 K2 h1 h2 => ?_) | refine DG_guard rfl rfl (fun K1 K2 h1 h2 => ?_))
       simp (dsimp := false) (disch := first | exact vD | fail) only [push_cast, List.reduceReplicate, Nat.reduceAdd, Nat.reduceMul, Nat.reduceSub, Nat.reduceEqDiff, Nat.reduceLT, Nat.reduceLeDiff, Nat.reduceBEq, Int.reduceToNat, Int.reduceEq, Int.reduceLT, Int.reduceLE, Int.reduceAdd, Int.reduceSub, Int.reduceMul, ↓reduceIte, reduceCtorEq, n1x, pc_load]
       first | (refine ⟨fun hc => ?_, fun hc => ?_⟩ <;> first | (exfalso; omega) | (exfalso; contradiction) | refine h1 ?_ | refine h2 ?_) | refine h1 ?_ | refine h2 ?_
       all_goals clear h1 h2 K1 K2)
    | (refine AC_draw (id := 5) (by kernel_rfl) [⟨0, [], [33, 34, 35, 37, 38, 39, 40, 41], [], [], 0⟩, ⟨1, [], [32, 37, 38, 39, 40, 41], [], [], 0⟩, ⟨2, [1], [32, 37, 38, 39, 40, 41], [], [], 0⟩, ⟨3, [1, 2], [32, 37, 38, 39, 40, 41], [], [], 0⟩, ⟨4, [0, 1, 2, 3], [37, 38, 39, 40, 41], [], [], 0⟩, ⟨5, [], [1, 32, 33, 34, 35, 36, 38, 39, 40], [], [], 0⟩, ⟨6, [], [1, 32, 33, 34, 35, 36, 37], [], [], 0⟩, ⟨7, [6], [1, 32, 33, 34, 35, 36, 37], [], [], 0⟩, ⟨8, [6, 7], [1, 32, 33, 34, 35, 36, 37], [], [], 0⟩, ⟨9, [5, 6, 7, 8], [1, 32, 33, 34, 35, 36], [], [], 0⟩, ⟨10, [0, 1, 2, 3, 4], [37, 38, 39, 40, 41], [], [], 0⟩, ⟨11, [0, 1, 2, 3, 4, 5, 6, 7, 8, 9, 10], [], [], [], 0⟩] (by kernel_rfl) (by kernel_rfl) (by kernel_rfl) ?_)
    | (refine AC_draw (id := 11) (by kernel_rfl) [⟨0, [], [62, 63, 64, 65, 66, 67, 68], [], [], 0⟩, ⟨1, [], [61, 63, 65, 66, 67], [], [], 0⟩, ⟨2, [], [61, 62, 65, 66, 67], [], [], 0⟩, ⟨3, [1, 2], [61, 65, 66, 67], [], [], 0⟩, ⟨4, [], [61, 62, 63, 64, 66], [], [], 0⟩, ⟨5, [], [61, 62, 63, 64, 65], [], [], 0⟩, ⟨6, [4, 5], [61, 62, 63, 64], [], [], 0⟩, ⟨7, [1, 2, 3, 4, 5, 6], [61], [], [], 0⟩, ⟨8, [0, 1, 2, 3, 4, 5, 6, 7], [], [], [], 0⟩, ⟨9, [0, 1, 2, 3, 4, 5, 6, 7, 8], [], [], [], 0⟩] (by kernel_rfl) (by kernel_rfl) (by kernel_rfl) ?_)
    | (refine AC_draw (id := 17) (by kernel_rfl) [⟨0, [], [79, 81, 82, 83], [], [], 0⟩, ⟨1, [], [78, 81, 82, 83], [], [], 0⟩, ⟨2, [0, 1], [81, 82, 83], [], [], 0⟩, ⟨3, [], [12, 78, 79, 80, 82], [], [], 0⟩, ⟨4, [], [12, 78, 79, 80, 81], [], [], 0⟩, ⟨5, [3, 4], [12, 78, 79, 80], [], [], 0⟩, ⟨6, [0, 1, 2], [81, 82, 83], [], [], 0⟩, ⟨7, [0, 1, 2, 3, 4, 5, 6], [], [], [], 0⟩] (by kernel_rfl) (by kernel_rfl) (by kernel_rfl) ?_)
    | ((first | refine DG_next' (by kernel_rfl) (fun K hK => ?_) | refine DG_nil (by kernel_rfl) (fun K hK => ?_))
       simp only [↓Go.Sy.dsnE_some, ↓Go.Sy.dsnE_none, ↓Go.Sy.dsnE_nil, ↓Go.Sy.dsnO_snoc, ↓Go.Sy.dsnO_nil, ↓Go.Sy.nidAt_snoc, ↓Go.Sy.nidAt_nil, push_cast, Nat.reduceLeDiff, Nat.reduceSub, Nat.reduceBEq, Nat.reduceEqDiff, Nat.reduceAdd, Nat.reduceLT, ↓reduceIte, reduceCtorEq]
       refine hK _ _ _ ?_; clear hK K)
    | (refine DG_go ?_)
    | (refine AL_nil ?_) | (refine Thn_normal ?_) | (refine Thn_ret ?_) | (refine Thn_exit ?_) | (refine Blk_normal ?_) | (refine Blk_ret ?_) | (refine Blk_here ?_) | (refine Blk_other rfl ?_) | (refine AC_block ?_) | (refine AC_exit ?_) | (refine AC_skip ?_) | (refine AC_ret ?_))
  all_goals (refine Ends.mk2 (by first | exact .inr rfl | exact .inl rfl) [] ?_; simp (dsimp := false) (disch := first | exact vD | fail) only [push_cast, List.reduceReplicate, Nat.reduceAdd, Nat.reduceMul, Nat.reduceSub, Nat.reduceEqDiff, Nat.reduceLT, Nat.reduceLeDiff, Nat.reduceBEq, Int.reduceToNat, Int.reduceEq, Int.reduceLT, Int.reduceLE, Int.reduceAdd, Int.reduceSub, Int.reduceMul, ↓reduceIte, reduceCtorEq, Try.f5]; (repeat (refine aI ?_)); try (first | exact vI | fail))
def dmy : Nat := 0
theorem dmy_def : dmy = 0 := rfl
theorem ways7 (p q r s : Bool) : (p = true ∧ q = true) ∨ (p = false ∧ r = false) ∨ (p = false ∧ r = true ∧ s = true) ∨ (p = false ∧ r = true ∧ s = false) ∨ (p = true ∧ q = false ∧ r = false) ∨ (p = true ∧ q = false ∧ r = true ∧ s = true) ∨ (p = true ∧ q = false ∧ r = true ∧ s = false) := by
  revert p q r s; decide
theorem blocked_2 (ha : 0 ≤ a ∧ a ≤ 65535) (hb : 0 ≤ b ∧ b ≤ 65535) (hk6 : k ≤ 6) (hk0 : 0 < k) (hkn : kk = k * k) (hk36 : kk ≤ 36) (hkk : (k : Int) * k = (kk : Nat)) :
    AC Try.prog (cAt [1, 1, 1, 1, 1, 1, 1] (Try.f5.body.getD .skip)) ((fun e x st => Go.Sy.Ends Try.prog Try.f5 [] 0 (.val (.bool true)) [] e st)) 3 (bS1 k kk a b) := by
  have hW := rest_le (a := low k a) (b := low k b) (k := k) (kk := kk) (i := kk)
  have hWm := rest_sub (a := low k a) (b := low k b) (k := k) (kk := kk) (i := kk)
  have hW0 : left k kk (rest (low k a) (low k b) k kk kk) 0 (rest (low k a) (low k b) k kk kk) := ⟨rfl, fun x => rfl, hWm⟩
  have hp3 := PLift.up (blocked_3 (a := a) (b := b) ha hb hk6 hk0 hkn (Nat.le_trans hW hk36) hWm hW0)
  have hbs := PLift.up fun (i : Nat) (h : i < kk) (hs : shut (low k a) (low k b) (fk k i) (mk k i) = true) => b_shut (next := (kk : Int)) h hkn hk6 hk0 hs
  have hbo := PLift.up fun (i : Nat) (h : i < kk) (hs : shut (low k a) (low k b) (fk k i) (mk k i) = false) => b_open (next := (kk : Int)) h hkn hk6 hk0 hs
  have hfk : ∀ i, i < kk → fk k i < k := fun i h => fk_lt (by omega)
  clear hW hWm hW0 hkn
  have hx1 := dmy_def; have hx2 := dmy_def; have hx3 := dmy_def; have hx4 := dmy_def
  simp (dsimp := false) (disch := first | exact vD | fail) only [push_cast, List.reduceReplicate, Nat.reduceAdd, Nat.reduceMul, Nat.reduceSub, Nat.reduceEqDiff, Nat.reduceLT, Nat.reduceLeDiff, Nat.reduceBEq, Int.reduceToNat, Int.reduceEq, Int.reduceLT, Int.reduceLE, Int.reduceAdd, Int.reduceSub, Int.reduceMul, ↓reduceIte, reduceCtorEq, bS1]
  repeat' (first
    | (refine AC_sub [0,1,2] _ ?_ (hp3.down); unfold bS2; (try simp only [List.cons_append, List.nil_append]); refine Sub.mk2 ?_; (simp (dsimp := false) (disch := first | exact vD | fail) only [push_cast, List.reduceReplicate, Nat.reduceAdd, Nat.reduceMul, Nat.reduceSub, Nat.reduceEqDiff, Nat.reduceLT, Nat.reduceLeDiff, Nat.reduceBEq, Int.reduceToNat, Int.reduceEq, Int.reduceLT, Int.reduceLE, Int.reduceAdd, Int.reduceSub, Int.reduceMul, ↓reduceIte, reduceCtorEq, hx1, hx2, hx3, hx4, n1x, hkk, sh_def, and_def, bt_def, nn_j, fk_def, mk_def, bindK_if', rest_0, bq_len]); (repeat (refine aI ?_)); (first | done | (first | exact vI | fail)); done)
    | (refine AC_loop_id ?_; refine AC_loop' [0,1,2] ([0,1,2].length) (b2I k kk a b) (fun i => kk - i.val) (⟨0, by omega⟩) rfl (by unfold b2I; (try simp only [List.cons_append, List.nil_append]); refine Sub.mk2 ?_; (simp (dsimp := false) (disch := first | exact vD | fail) only [push_cast, List.reduceReplicate, Nat.reduceAdd, Nat.reduceMul, Nat.reduceSub, Nat.reduceEqDiff, Nat.reduceLT, Nat.reduceLeDiff, Nat.reduceBEq, Int.reduceToNat, Int.reduceEq, Int.reduceLT, Int.reduceLE, Int.reduceAdd, Int.reduceSub, Int.reduceMul, ↓reduceIte, reduceCtorEq, hx1, hx2, hx3, hx4, n1x, hkk, sh_def, and_def, bt_def, nn_j, fk_def, mk_def, bindK_if', rest_0, bq_len]); (repeat (refine aI ?_)); (first | done | (first | exact vI | fail)); done) ?_; (rintro ⟨i, hi⟩; have hf1 := hfk i; have hm1 := mk_lt (k := k) (i := i) hk0; rcases Nat.lt_or_eq_of_le hi with hil | hil <;> first | (have ei : kk = i := hil.symm; subst ei; (simp (dsimp := false) (disch := first | exact vD | fail) only [push_cast, List.reduceReplicate, Nat.reduceAdd, Nat.reduceMul, Nat.reduceSub, Nat.reduceEqDiff, Nat.reduceLT, Nat.reduceLeDiff, Nat.reduceBEq, Int.reduceToNat, Int.reduceEq, Int.reduceLT, Int.reduceLE, Int.reduceAdd, Int.reduceSub, Int.reduceMul, ↓reduceIte, reduceCtorEq, b2I])) | (rcases ways7 (bt (low k a) (fk k i)) (bt (low k b) (mk k i)) (bt (low k b) (fk k i)) (bt (low k a) (mk k i)) with ⟨hx1, hx2⟩ | ⟨hx1, hx3⟩ | ⟨hx1, hx3, hx4⟩ | ⟨hx1, hx3, hx4⟩ | ⟨hx1, hx2, hx3⟩ | ⟨hx1, hx2, hx3, hx4⟩ | ⟨hx1, hx2, hx3, hx4⟩ <;> (simp (dsimp := false) (disch := first | exact vD | fail) only [push_cast, List.reduceReplicate, Nat.reduceAdd, Nat.reduceMul, Nat.reduceSub, Nat.reduceEqDiff, Nat.reduceLT, Nat.reduceLeDiff, Nat.reduceBEq, Int.reduceToNat, Int.reduceEq, Int.reduceLT, Int.reduceLE, Int.reduceAdd, Int.reduceSub, Int.reduceMul, ↓reduceIte, reduceCtorEq, b2I]))))
    | (refine Nxt_id ?_; refine Nxt.mk [0,1,2] (⟨i + 1, by omega⟩) rfl (by unfold b2I; (try simp only [List.cons_append, List.nil_append]); refine Sub.mk2 ?_; (simp (dsimp := false) (disch := first | exact vD | fail) only [push_cast, List.reduceReplicate, Nat.reduceAdd, Nat.reduceMul, Nat.reduceSub, Nat.reduceEqDiff, Nat.reduceLT, Nat.reduceLeDiff, Nat.reduceBEq, Int.reduceToNat, Int.reduceEq, Int.reduceLT, Int.reduceLE, Int.reduceAdd, Int.reduceSub, Int.reduceMul, ↓reduceIte, reduceCtorEq, hx1, hx2, hx3, hx4, n1x, hkk, sh_def, and_def, bt_def, nn_j, fk_def, mk_def, bindK_if', rest_0, bq_len]); (repeat (refine aI ?_)); (first | done | (first | exact vI | fail)); done) (by first | omega | (simp; done) | (simp; omega)))
    | (refine AC_seq ?_)
    | (refine AC_region_lit ?_)
    | ((first | refine AL_go rfl (fun K hK => ?_) | refine AL_go0 (fun K hK => ?_) | refine DG_run (fun K hK => ?_))
       (first
        | (refine R_callG (f := 18) [0,1,2] 3 false ?_
           simp (dsimp := false) (disch := first | exact vD | fail) only [push_cast, List.reduceReplicate, Nat.reduceAdd, Nat.reduceMul, Nat.reduceSub, Nat.reduceEqDiff, Nat.reduceLT, Nat.reduceLeDiff, Nat.reduceBEq, Int.reduceToNat, Int.reduceEq, Int.reduceLT, Int.reduceLE, Int.reduceAdd, Int.reduceSub, Int.reduceMul, ↓reduceIte, reduceCtorEq, hx1, hx2, hx3, hx4, n1x, hkk, sh_def, and_def, bt_def, nn_j, fk_def, mk_def, bindK_if', rest_0, bq_len]
           (repeat (refine aI ?_)); intro G hG; refine hG _ _ ?_; clear hG G
           refine ⟨_, _, hbs.down i hil (by unfold shut; first | (simp_all; done) | fail), ?_⟩
           simp (dsimp := false) (disch := first | exact vD | fail) only [push_cast, List.reduceReplicate, Nat.reduceAdd, Nat.reduceMul, Nat.reduceSub, Nat.reduceEqDiff, Nat.reduceLT, Nat.reduceLeDiff, Nat.reduceBEq, Int.reduceToNat, Int.reduceEq, Int.reduceLT, Int.reduceLE, Int.reduceAdd, Int.reduceSub, Int.reduceMul, ↓reduceIte, reduceCtorEq, hx1, hx2, hx3, hx4, n1x, hkk, sh_def, and_def, bt_def, nn_j, fk_def, mk_def, bindK_if', rest_0, bq_len]
           (repeat (refine aI ?_)); (first | refine hK _ _ _ ?_ | refine hK _ _ ?_); clear hK K)
        | (refine R_callG (f := 18) [0,1,2] 3 false ?_
           simp (dsimp := false) (disch := first | exact vD | fail) only [push_cast, List.reduceReplicate, Nat.reduceAdd, Nat.reduceMul, Nat.reduceSub, Nat.reduceEqDiff, Nat.reduceLT, Nat.reduceLeDiff, Nat.reduceBEq, Int.reduceToNat, Int.reduceEq, Int.reduceLT, Int.reduceLE, Int.reduceAdd, Int.reduceSub, Int.reduceMul, ↓reduceIte, reduceCtorEq, hx1, hx2, hx3, hx4, n1x, hkk, sh_def, and_def, bt_def, nn_j, fk_def, mk_def, bindK_if', rest_0, bq_len]
           (repeat (refine aI ?_)); intro G hG; refine hG _ _ ?_; clear hG G
           refine ⟨_, _, hbo.down i hil (by unfold shut; first | (simp_all; done) | fail), ?_⟩
           simp (dsimp := false) (disch := first | exact vD | fail) only [push_cast, List.reduceReplicate, Nat.reduceAdd, Nat.reduceMul, Nat.reduceSub, Nat.reduceEqDiff, Nat.reduceLT, Nat.reduceLeDiff, Nat.reduceBEq, Int.reduceToNat, Int.reduceEq, Int.reduceLT, Int.reduceLE, Int.reduceAdd, Int.reduceSub, Int.reduceMul, ↓reduceIte, reduceCtorEq, hx1, hx2, hx3, hx4, n1x, hkk, sh_def, and_def, bt_def, nn_j, fk_def, mk_def, bindK_if', rest_0, bq_len]
           (repeat (refine aI ?_)); (first | refine hK _ _ _ ?_ | refine hK _ _ ?_); clear hK K)))
    | ((first | refine AL_go rfl (fun K hK => ?_) | refine AL_go0 (fun K hK => ?_) | refine DG_run (fun K hK => ?_))
       (first | refine R_move _ ?_ | refine R_assign _ ?_ | refine Q_load _ _ ?_ | refine Q_loadAgg _ _ ?_ | refine Q_fieldAddr _ _ _ ?_ | refine Q_indexAddr _ _ _ ?_ | refine Q_indexArr _ _ _ ?_ | refine Q_len _ _ ?_ | refine Q_lenStr _ _ ?_ | refine Q_pick _ _ _ ?_ | refine Q_not _ _ ?_ | refine Q_neg _ _ ?_ | refine Q_extract _ _ ?_ | refine R_alloc _ ?_ | refine Q_store _ _ _ ?_ | refine Q_build _ _ ?_ | refine Q_buildArr _ _ ?_ | refine Q_convert _ _ _ ?_ | refine Q_eqAgg _ _ _ _ ?_ | refine Q_neqAgg _ _ _ _ ?_ | refine Q_neqSelf _ _ _ _ ?_ | refine Q_bin _ _ _ _ _ ?_)
       simp (dsimp := false) (disch := first | exact vD | fail) only [push_cast, List.reduceReplicate, Nat.reduceAdd, Nat.reduceMul, Nat.reduceSub, Nat.reduceEqDiff, Nat.reduceLT, Nat.reduceLeDiff, Nat.reduceBEq, Int.reduceToNat, Int.reduceEq, Int.reduceLT, Int.reduceLE, Int.reduceAdd, Int.reduceSub, Int.reduceMul, ↓reduceIte, reduceCtorEq, hx1, hx2, hx3, hx4, n1x, hkk, sh_def, and_def, bt_def, nn_j, fk_def, mk_def, bindK_if', rest_0, bq_len]
       (repeat (refine aI ?_)); (first | refine hK _ _ _ ?_ | refine hK _ _ ?_); clear hK K)
    | ((first | refine AL_go rfl (fun K hK => ?_) | refine AL_go0 (fun K hK => ?_) | refine DG_run (fun K hK => ?_))
       (first | refine Q_eqnil _ _ _ _ ?_ | refine Q_neqnil _ _ _ _ ?_)
       simp (dsimp := false) (disch := first | exact vD | fail) only [push_cast, List.reduceReplicate, Nat.reduceAdd, Nat.reduceMul, Nat.reduceSub, Nat.reduceEqDiff, Nat.reduceLT, Nat.reduceLeDiff, Nat.reduceBEq, Int.reduceToNat, Int.reduceEq, Int.reduceLT, Int.reduceLE, Int.reduceAdd, Int.reduceSub, Int.reduceMul, ↓reduceIte, reduceCtorEq, hx1, hx2, hx3, hx4, n1x, hkk, sh_def, and_def, bt_def, nn_j, fk_def, mk_def, bindK_if', rest_0, bq_len]
       (repeat (refine aI ?_)); (first | refine hK _ _ _ ?_ | refine hK _ _ ?_); clear hK K)
    | ((first | refine AL_guard rfl rfl (fun K1 K2 h1 h2 => ?_) rfl | refine AC_cond_k (fun K1 K2 h1 h2 => ?_) | refine DG_guard rfl rfl (fun K1 K2 h1 h2 => ?_))
       simp (dsimp := false) (disch := first | exact vD | fail) only [push_cast, List.reduceReplicate, Nat.reduceAdd, Nat.reduceMul, Nat.reduceSub, Nat.reduceEqDiff, Nat.reduceLT, Nat.reduceLeDiff, Nat.reduceBEq, Int.reduceToNat, Int.reduceEq, Int.reduceLT, Int.reduceLE, Int.reduceAdd, Int.reduceSub, Int.reduceMul, ↓reduceIte, reduceCtorEq, hx1, hx2, hx3, hx4, n1x, hkk, sh_def, and_def, bt_def, nn_j, fk_def, mk_def, bindK_if', rest_0, bq_len]
       first | (refine ⟨fun hc => ?_, fun hc => ?_⟩ <;> first | (exfalso; omega) | (exfalso; contradiction) | (exfalso; (simp_all only [reduceCtorEq]; done)) | (exfalso; (simp_all [sel]; done)) | refine h1 ?_ | refine h2 ?_) | refine h1 ?_ | refine h2 ?_
       all_goals clear h1 h2 K1 K2)
    | (refine AC_draw (id := 5) (by kernel_rfl) [⟨0, [], [33, 34, 35, 37, 38, 39, 40, 41], [], [], 0⟩, ⟨1, [], [32, 37, 38, 39, 40, 41], [], [], 0⟩, ⟨2, [1], [32, 37, 38, 39, 40, 41], [], [], 0⟩, ⟨3, [1, 2], [32, 37, 38, 39, 40, 41], [], [], 0⟩, ⟨4, [0, 1, 2, 3], [37, 38, 39, 40, 41], [], [], 0⟩, ⟨5, [], [1, 32, 33, 34, 35, 36, 38, 39, 40], [], [], 0⟩, ⟨6, [], [1, 32, 33, 34, 35, 36, 37], [], [], 0⟩, ⟨7, [6], [1, 32, 33, 34, 35, 36, 37], [], [], 0⟩, ⟨8, [6, 7], [1, 32, 33, 34, 35, 36, 37], [], [], 0⟩, ⟨9, [5, 6, 7, 8], [1, 32, 33, 34, 35, 36], [], [], 0⟩, ⟨10, [0, 1, 2, 3, 4], [37, 38, 39, 40, 41], [], [], 0⟩, ⟨11, [0, 1, 2, 3, 4, 5, 6, 7, 8, 9, 10], [], [], [], 0⟩] (by kernel_rfl) (by kernel_rfl) (by kernel_rfl) ?_)
    | (refine AC_draw (id := 11) (by kernel_rfl) [⟨0, [], [62, 63, 64, 65, 66, 67, 68], [], [], 0⟩, ⟨1, [], [61, 63, 65, 66, 67], [], [], 0⟩, ⟨2, [], [61, 62, 65, 66, 67], [], [], 0⟩, ⟨3, [1, 2], [61, 65, 66, 67], [], [], 0⟩, ⟨4, [], [61, 62, 63, 64, 66], [], [], 0⟩, ⟨5, [], [61, 62, 63, 64, 65], [], [], 0⟩, ⟨6, [4, 5], [61, 62, 63, 64], [], [], 0⟩, ⟨7, [1, 2, 3, 4, 5, 6], [61], [], [], 0⟩, ⟨8, [0, 1, 2, 3, 4, 5, 6, 7], [], [], [], 0⟩, ⟨9, [0, 1, 2, 3, 4, 5, 6, 7, 8], [], [], [], 0⟩] (by kernel_rfl) (by kernel_rfl) (by kernel_rfl) ?_)
    | (refine AC_draw (id := 17) (by kernel_rfl) [⟨0, [], [79, 81, 82, 83], [], [], 0⟩, ⟨1, [], [78, 81, 82, 83], [], [], 0⟩, ⟨2, [0, 1], [81, 82, 83], [], [], 0⟩, ⟨3, [], [12, 78, 79, 80, 82], [], [], 0⟩, ⟨4, [], [12, 78, 79, 80, 81], [], [], 0⟩, ⟨5, [3, 4], [12, 78, 79, 80], [], [], 0⟩, ⟨6, [0, 1, 2], [81, 82, 83], [], [], 0⟩, ⟨7, [0, 1, 2, 3, 4, 5, 6], [], [], [], 0⟩] (by kernel_rfl) (by kernel_rfl) (by kernel_rfl) ?_)
    | ((first | refine DG_next' (by kernel_rfl) (fun K hK => ?_) | refine DG_nil (by kernel_rfl) (fun K hK => ?_))
       simp only [↓Go.Sy.dsnE_some, ↓Go.Sy.dsnE_none, ↓Go.Sy.dsnE_nil, ↓Go.Sy.dsnO_snoc, ↓Go.Sy.dsnO_nil, ↓Go.Sy.nidAt_snoc, ↓Go.Sy.nidAt_nil, push_cast, Nat.reduceLeDiff, Nat.reduceSub, Nat.reduceBEq, Nat.reduceEqDiff, Nat.reduceAdd, Nat.reduceLT, ↓reduceIte, reduceCtorEq]
       refine hK _ _ _ ?_; clear hK K)
    | (refine DG_go ?_)
    | (refine AL_nil ?_) | (refine Thn_normal ?_) | (refine Thn_ret ?_) | (refine Thn_exit ?_) | (refine Blk_normal ?_) | (refine Blk_ret ?_) | (refine Blk_here ?_) | (refine Blk_other rfl ?_) | (refine AC_block ?_) | (refine AC_exit ?_) | (refine AC_skip ?_) | (refine AC_ret ?_))
  all_goals (refine Ends.mk2 (by first | exact .inr rfl | exact .inl rfl) [] ?_; simp (dsimp := false) (disch := first | exact vD | fail) only [push_cast, List.reduceReplicate, Nat.reduceAdd, Nat.reduceMul, Nat.reduceSub, Nat.reduceEqDiff, Nat.reduceLT, Nat.reduceLeDiff, Nat.reduceBEq, Int.reduceToNat, Int.reduceEq, Int.reduceLT, Int.reduceLE, Int.reduceAdd, Int.reduceSub, Int.reduceMul, ↓reduceIte, reduceCtorEq, Try.f5]; (repeat (refine aI ?_)); try (first | exact vI | fail))
theorem blocked_k (hv : 0 ≤ v ∧ v ≤ 255) (ha : 0 ≤ a ∧ a ≤ 65535) (hb : 0 ≤ b ∧ b ≤ 65535) (hk : 2 + v % 5 = (k : Nat)) (hkk : (k : Int) * k = (kk : Nat)) : ACall Try.prog 5 [.val (.int .u8 v), .val (.int .u16 a), .val (.int .u16 b)] [] 0 (.val (.bool true)) [] := by
  have hv2 : v.tmod 5 = v % 5 := Int.tmod_eq_emod_of_nonneg hv.1
  have hk6 : k ≤ 6 := by omega
  have hk0 : 0 < k := by omega
  have hkn : kk = k * k := by
    have : ((k * k : Nat) : Int) = kk := by rw [← hkk]; simp
    omega
  have hkp : 0 < kk := by rw [hkn]; exact Nat.mul_pos hk0 hk0
  have hk36 : kk ≤ 36 := by rw [hkn]; exact Nat.mul_le_mul hk6 hk6
  have hpw : 4 ≤ pw k ∧ pw k ≤ 64 := by
    have hpw1 : 2 ^ 2 ≤ 2 ^ k := Nat.pow_le_pow_right (by decide) (by omega)
    have hpw2 : 2 ^ k ≤ 2 ^ 6 := Nat.pow_le_pow_right (by decide) hk6
    exact ⟨hpw1, hpw2⟩
  have hp2 := PLift.up (blocked_2 (a := a) (b := b) ha hb hk6 hk0 hkn hk36 hkk)
  have hnk : ¬ ((k : Int) < 1 ∨ 18 < (k : Int)) := by omega
  refine ACall.enter Try.func5 rfl (by simp [Try.ntmps5]) (by simp) ?_
  simp only [entry, idx, Try.ntmps5, List.length, List.map_cons, List.map_nil, List.append_nil, List.cons_append, List.nil_append, Nat.reduceAdd, Nat.zero_add, List.length_cons, List.length_nil]
  repeat' (first
    | (refine AC_sub [0,1,2] _ ?_ (hp2.down); unfold bS1; (try simp only [List.cons_append, List.nil_append]); refine Sub.mk2 ?_; (simp (dsimp := false) (disch := first | exact vD | fail) only [push_cast, List.reduceReplicate, Nat.reduceAdd, Nat.reduceMul, Nat.reduceSub, Nat.reduceEqDiff, Nat.reduceLT, Nat.reduceLeDiff, Nat.reduceBEq, Int.reduceToNat, Int.reduceEq, Int.reduceLT, Int.reduceLE, Int.reduceAdd, Int.reduceSub, Int.reduceMul, ↓reduceIte, reduceCtorEq, n0, n1x, hv2, hk, hkk, sh1, low_def, and_def, nn_j, fk_def, mk_def, bindK_if', bmc, bq_len]); (repeat (refine aI ?_)); (first | done | (first | exact vI | fail)); done)
    | (refine AC_loop_id ?_; refine AC_loop' [0,1,9] ([0,1,9].length) (b1I k kk a b) (fun i => kk - i.val) (⟨0, by omega⟩) rfl (by unfold b1I; (try simp only [List.cons_append, List.nil_append]); refine Sub.mk2 ?_; (simp (dsimp := false) (disch := first | exact vD | fail) only [push_cast, List.reduceReplicate, Nat.reduceAdd, Nat.reduceMul, Nat.reduceSub, Nat.reduceEqDiff, Nat.reduceLT, Nat.reduceLeDiff, Nat.reduceBEq, Int.reduceToNat, Int.reduceEq, Int.reduceLT, Int.reduceLE, Int.reduceAdd, Int.reduceSub, Int.reduceMul, ↓reduceIte, reduceCtorEq, n0, n1x, hv2, hk, hkk, sh1, low_def, and_def, nn_j, fk_def, mk_def, bindK_if', bmc, bq_len]); (repeat (refine aI ?_)); (first | done | (first | exact vI | fail)); done) ?_; (rintro ⟨i, hi⟩; have hf1 := fun h : i < kk => fk_lt (k := k) (i := i) (by omega); have hm1 := mk_lt (k := k) (i := i) hk0; rcases Nat.lt_or_eq_of_le hi with hil | hil <;> first | (have ei : kk = i := hil.symm; subst ei; (simp (dsimp := false) (disch := first | exact vD | fail) only [push_cast, List.reduceReplicate, Nat.reduceAdd, Nat.reduceMul, Nat.reduceSub, Nat.reduceEqDiff, Nat.reduceLT, Nat.reduceLeDiff, Nat.reduceBEq, Int.reduceToNat, Int.reduceEq, Int.reduceLT, Int.reduceLE, Int.reduceAdd, Int.reduceSub, Int.reduceMul, ↓reduceIte, reduceCtorEq, b1I])) | (rcases Nat.eq_zero_or_pos i with hi0 | hi0 <;> (simp (dsimp := false) (disch := first | exact vD | fail) only [push_cast, List.reduceReplicate, Nat.reduceAdd, Nat.reduceMul, Nat.reduceSub, Nat.reduceEqDiff, Nat.reduceLT, Nat.reduceLeDiff, Nat.reduceBEq, Int.reduceToNat, Int.reduceEq, Int.reduceLT, Int.reduceLE, Int.reduceAdd, Int.reduceSub, Int.reduceMul, ↓reduceIte, reduceCtorEq, b1I]))))
    | (refine Nxt_id ?_; refine Nxt.mk [0,1,3] (⟨i + 1, by omega⟩) rfl (by unfold b1I; (try simp only [List.cons_append, List.nil_append]); refine Sub.mk2 ?_; (simp (dsimp := false) (disch := first | exact vD | fail) only [push_cast, List.reduceReplicate, Nat.reduceAdd, Nat.reduceMul, Nat.reduceSub, Nat.reduceEqDiff, Nat.reduceLT, Nat.reduceLeDiff, Nat.reduceBEq, Int.reduceToNat, Int.reduceEq, Int.reduceLT, Int.reduceLE, Int.reduceAdd, Int.reduceSub, Int.reduceMul, ↓reduceIte, reduceCtorEq, n0, n1x, hv2, hk, hkk, sh1, low_def, and_def, nn_j, fk_def, mk_def, bindK_if', bmc, bq_len]); (repeat (refine aI ?_)); (first | done | (first | exact vI | fail)); done) (by first | omega | (simp; done) | (simp; omega)))
    | (refine AC_seq ?_)
    | (refine AC_region_lit ?_)
    | ((first | refine AL_go rfl (fun K hK => ?_) | refine AL_go0 (fun K hK => ?_) | refine DG_run (fun K hK => ?_))
       (first | refine R_callG (f := 10) [] 0 false ?_ | refine R_callG (f := 11) [] 0 false ?_ | refine R_callG (f := 17) [0,1] 2 false ?_)
       simp (dsimp := false) (disch := first | exact vD | fail) only [push_cast, List.reduceReplicate, Nat.reduceAdd, Nat.reduceMul, Nat.reduceSub, Nat.reduceEqDiff, Nat.reduceLT, Nat.reduceLeDiff, Nat.reduceBEq, Int.reduceToNat, Int.reduceEq, Int.reduceLT, Int.reduceLE, Int.reduceAdd, Int.reduceSub, Int.reduceMul, ↓reduceIte, reduceCtorEq, n0, n1x, hv2, hk, hkk, sh1, low_def, and_def, nn_j, fk_def, mk_def, bindK_if', bmc, bq_len]
       (repeat (refine aI ?_)); intro G hG; refine hG _ _ ?_; clear hG G
       (first | refine ⟨_, _, awake_ok, ?_⟩ | refine ⟨_, _, new_ok hnk, ?_⟩ | refine ⟨_, _, b_block1 ha hb hk6, ?_⟩)
       simp (dsimp := false) (disch := first | exact vD | fail) only [push_cast, List.reduceReplicate, Nat.reduceAdd, Nat.reduceMul, Nat.reduceSub, Nat.reduceEqDiff, Nat.reduceLT, Nat.reduceLeDiff, Nat.reduceBEq, Int.reduceToNat, Int.reduceEq, Int.reduceLT, Int.reduceLE, Int.reduceAdd, Int.reduceSub, Int.reduceMul, ↓reduceIte, reduceCtorEq, n0, n1x, hv2, hk, hkk, sh1, low_def, and_def, nn_j, fk_def, mk_def, bindK_if', bmc, bq_len]
       (repeat (refine aI ?_)); (first | refine hK _ _ _ ?_ | refine hK _ _ ?_); clear hK K)
    | ((first | refine AL_go rfl (fun K hK => ?_) | refine AL_go0 (fun K hK => ?_) | refine DG_run (fun K hK => ?_))
       (first
        | (refine R_callG (f := 12) [0,1] 2 false ?_
           simp (dsimp := false) (disch := first | exact vD | fail) only [push_cast, List.reduceReplicate, Nat.reduceAdd, Nat.reduceMul, Nat.reduceSub, Nat.reduceEqDiff, Nat.reduceLT, Nat.reduceLeDiff, Nat.reduceBEq, Int.reduceToNat, Int.reduceEq, Int.reduceLT, Int.reduceLE, Int.reduceAdd, Int.reduceSub, Int.reduceMul, ↓reduceIte, reduceCtorEq, n0, n1x, hv2, hk, hkk, sh1, low_def, and_def, nn_j, fk_def, mk_def, bindK_if', bmc, bq_len]
           (repeat (refine aI ?_)); intro G hG; refine hG _ _ ?_; clear hG G
           refine ⟨_, _, b_send0 (k := k) (i := i) (by omega) hi0, ?_⟩
           simp (dsimp := false) (disch := first | exact vD | fail) only [push_cast, List.reduceReplicate, Nat.reduceAdd, Nat.reduceMul, Nat.reduceSub, Nat.reduceEqDiff, Nat.reduceLT, Nat.reduceLeDiff, Nat.reduceBEq, Int.reduceToNat, Int.reduceEq, Int.reduceLT, Int.reduceLE, Int.reduceAdd, Int.reduceSub, Int.reduceMul, ↓reduceIte, reduceCtorEq, n0, n1x, hv2, hk, hkk, sh1, low_def, and_def, nn_j, fk_def, mk_def, bindK_if', bmc, bq_len]
           (repeat (refine aI ?_)); (first | refine hK _ _ _ ?_ | refine hK _ _ ?_); clear hK K)
        | (refine R_callG (f := 12) [0,1,2] 2 false ?_
           simp (dsimp := false) (disch := first | exact vD | fail) only [push_cast, List.reduceReplicate, Nat.reduceAdd, Nat.reduceMul, Nat.reduceSub, Nat.reduceEqDiff, Nat.reduceLT, Nat.reduceLeDiff, Nat.reduceBEq, Int.reduceToNat, Int.reduceEq, Int.reduceLT, Int.reduceLE, Int.reduceAdd, Int.reduceSub, Int.reduceMul, ↓reduceIte, reduceCtorEq, n0, n1x, hv2, hk, hkk, sh1, low_def, and_def, nn_j, fk_def, mk_def, bindK_if', bmc, bq_len]
           (repeat (refine aI ?_)); intro G hG; refine hG _ _ ?_; clear hG G
           refine ⟨_, _, b_send (k := k) (i := i) (by omega) (by omega) hi0, ?_⟩
           simp (dsimp := false) (disch := first | exact vD | fail) only [push_cast, List.reduceReplicate, Nat.reduceAdd, Nat.reduceMul, Nat.reduceSub, Nat.reduceEqDiff, Nat.reduceLT, Nat.reduceLeDiff, Nat.reduceBEq, Int.reduceToNat, Int.reduceEq, Int.reduceLT, Int.reduceLE, Int.reduceAdd, Int.reduceSub, Int.reduceMul, ↓reduceIte, reduceCtorEq, n0, n1x, hv2, hk, hkk, sh1, low_def, and_def, nn_j, fk_def, mk_def, bindK_if', bmc, bq_len]
           (repeat (refine aI ?_)); (first | refine hK _ _ _ ?_ | refine hK _ _ ?_); clear hK K)))
    | ((first | refine AL_go rfl (fun K hK => ?_) | refine AL_go0 (fun K hK => ?_) | refine DG_run (fun K hK => ?_))
       (first | refine R_move _ ?_ | refine R_assign _ ?_ | refine Q_load _ _ ?_ | refine Q_loadAgg _ _ ?_ | refine Q_fieldAddr _ _ _ ?_ | refine Q_indexAddr _ _ _ ?_ | refine Q_indexArr _ _ _ ?_ | refine Q_len _ _ ?_ | refine Q_lenStr _ _ ?_ | refine Q_pick _ _ _ ?_ | refine Q_not _ _ ?_ | refine Q_neg _ _ ?_ | refine Q_extract _ _ ?_ | refine R_alloc _ ?_ | refine Q_store _ _ _ ?_ | refine Q_build _ _ ?_ | refine Q_buildArr _ _ ?_ | refine Q_convert _ _ _ ?_ | refine Q_eqAgg _ _ _ _ ?_ | refine Q_neqAgg _ _ _ _ ?_ | refine Q_neqSelf _ _ _ _ ?_ | refine Q_bin _ _ _ _ _ ?_)
       simp (dsimp := false) (disch := first | exact vD | fail) only [push_cast, List.reduceReplicate, Nat.reduceAdd, Nat.reduceMul, Nat.reduceSub, Nat.reduceEqDiff, Nat.reduceLT, Nat.reduceLeDiff, Nat.reduceBEq, Int.reduceToNat, Int.reduceEq, Int.reduceLT, Int.reduceLE, Int.reduceAdd, Int.reduceSub, Int.reduceMul, ↓reduceIte, reduceCtorEq, n0, n1x, hv2, hk, hkk, sh1, low_def, and_def, nn_j, fk_def, mk_def, bindK_if', bmc, bq_len]
       (repeat (refine aI ?_)); (first | refine hK _ _ _ ?_ | refine hK _ _ ?_); clear hK K)
    | ((first | refine AL_go rfl (fun K hK => ?_) | refine AL_go0 (fun K hK => ?_) | refine DG_run (fun K hK => ?_))
       (first | refine Q_eqnil _ _ _ _ ?_ | refine Q_neqnil _ _ _ _ ?_)
       simp (dsimp := false) (disch := first | exact vD | fail) only [push_cast, List.reduceReplicate, Nat.reduceAdd, Nat.reduceMul, Nat.reduceSub, Nat.reduceEqDiff, Nat.reduceLT, Nat.reduceLeDiff, Nat.reduceBEq, Int.reduceToNat, Int.reduceEq, Int.reduceLT, Int.reduceLE, Int.reduceAdd, Int.reduceSub, Int.reduceMul, ↓reduceIte, reduceCtorEq, n0, n1x, hv2, hk, hkk, sh1, low_def, and_def, nn_j, fk_def, mk_def, bindK_if', bmc, bq_len]
       (repeat (refine aI ?_)); (first | refine hK _ _ _ ?_ | refine hK _ _ ?_); clear hK K)
    | ((first | refine AL_guard rfl rfl (fun K1 K2 h1 h2 => ?_) rfl | refine AC_cond_k (fun K1 K2 h1 h2 => ?_) | refine DG_guard rfl rfl (fun K1 K2 h1 h2 => ?_))
       simp (dsimp := false) (disch := first | exact vD | fail) only [push_cast, List.reduceReplicate, Nat.reduceAdd, Nat.reduceMul, Nat.reduceSub, Nat.reduceEqDiff, Nat.reduceLT, Nat.reduceLeDiff, Nat.reduceBEq, Int.reduceToNat, Int.reduceEq, Int.reduceLT, Int.reduceLE, Int.reduceAdd, Int.reduceSub, Int.reduceMul, ↓reduceIte, reduceCtorEq, n0, n1x, hv2, hk, hkk, sh1, low_def, and_def, nn_j, fk_def, mk_def, bindK_if', bmc, bq_len]
       first | (refine ⟨fun hc => ?_, fun hc => ?_⟩ <;> first | (exfalso; omega) | (exfalso; contradiction) | refine h1 ?_ | refine h2 ?_) | refine h1 ?_ | refine h2 ?_
       all_goals clear h1 h2 K1 K2)
    | (refine AC_draw (id := 5) (by kernel_rfl) [⟨0, [], [33, 34, 35, 37, 38, 39, 40, 41], [], [], 0⟩, ⟨1, [], [32, 37, 38, 39, 40, 41], [], [], 0⟩, ⟨2, [1], [32, 37, 38, 39, 40, 41], [], [], 0⟩, ⟨3, [1, 2], [32, 37, 38, 39, 40, 41], [], [], 0⟩, ⟨4, [0, 1, 2, 3], [37, 38, 39, 40, 41], [], [], 0⟩, ⟨5, [], [1, 32, 33, 34, 35, 36, 38, 39, 40], [], [], 0⟩, ⟨6, [], [1, 32, 33, 34, 35, 36, 37], [], [], 0⟩, ⟨7, [6], [1, 32, 33, 34, 35, 36, 37], [], [], 0⟩, ⟨8, [6, 7], [1, 32, 33, 34, 35, 36, 37], [], [], 0⟩, ⟨9, [5, 6, 7, 8], [1, 32, 33, 34, 35, 36], [], [], 0⟩, ⟨10, [0, 1, 2, 3, 4], [37, 38, 39, 40, 41], [], [], 0⟩, ⟨11, [0, 1, 2, 3, 4, 5, 6, 7, 8, 9, 10], [], [], [], 0⟩] (by kernel_rfl) (by kernel_rfl) (by kernel_rfl) ?_)
    | (refine AC_draw (id := 11) (by kernel_rfl) [⟨0, [], [62, 63, 64, 65, 66, 67, 68], [], [], 0⟩, ⟨1, [], [61, 63, 65, 66, 67], [], [], 0⟩, ⟨2, [], [61, 62, 65, 66, 67], [], [], 0⟩, ⟨3, [1, 2], [61, 65, 66, 67], [], [], 0⟩, ⟨4, [], [61, 62, 63, 64, 66], [], [], 0⟩, ⟨5, [], [61, 62, 63, 64, 65], [], [], 0⟩, ⟨6, [4, 5], [61, 62, 63, 64], [], [], 0⟩, ⟨7, [1, 2, 3, 4, 5, 6], [61], [], [], 0⟩, ⟨8, [0, 1, 2, 3, 4, 5, 6, 7], [], [], [2], 1⟩, ⟨9, [0, 1, 2, 3, 4, 5, 6, 7, 8], [], [], [], 0⟩] (by kernel_rfl) (by kernel_rfl) (by kernel_rfl) ?_)
    | (refine AC_draw (id := 17) (by kernel_rfl) [⟨0, [], [79, 81, 82, 83], [], [], 0⟩, ⟨1, [], [78, 81, 82, 83], [], [], 0⟩, ⟨2, [0, 1], [81, 82, 83], [], [], 0⟩, ⟨3, [], [12, 78, 79, 80, 82], [], [], 0⟩, ⟨4, [], [12, 78, 79, 80, 81], [], [], 0⟩, ⟨5, [3, 4], [12, 78, 79, 80], [], [], 0⟩, ⟨6, [0, 1, 2], [81, 82, 83], [], [], 0⟩, ⟨7, [0, 1, 2, 3, 4, 5, 6], [], [], [], 0⟩] (by kernel_rfl) (by kernel_rfl) (by kernel_rfl) ?_)
    | ((first | refine DG_next' (by kernel_rfl) (fun K hK => ?_) | refine DG_nil (by kernel_rfl) (fun K hK => ?_))
       simp only [↓Go.Sy.dsnE_some, ↓Go.Sy.dsnE_none, ↓Go.Sy.dsnE_nil, ↓Go.Sy.dsnO_snoc, ↓Go.Sy.dsnO_nil, ↓Go.Sy.nidAt_snoc, ↓Go.Sy.nidAt_nil, push_cast, Nat.reduceLeDiff, Nat.reduceSub, Nat.reduceBEq, Nat.reduceEqDiff, Nat.reduceAdd, Nat.reduceLT, ↓reduceIte, reduceCtorEq]
       refine hK _ _ _ ?_; clear hK K)
    | (refine DG_go ?_)
    | (refine AL_nil ?_) | (refine Thn_normal ?_) | (refine Thn_ret ?_) | (refine Thn_exit ?_) | (refine Blk_normal ?_) | (refine Blk_ret ?_) | (refine Blk_here ?_) | (refine Blk_other rfl ?_) | (refine AC_block ?_) | (refine AC_exit ?_) | (refine AC_skip ?_) | (refine AC_ret ?_))
  all_goals (refine Ends.mk2 (by first | exact .inr rfl | exact .inl rfl) [] ?_; simp (dsimp := false) (disch := first | exact vD | fail) only [push_cast, List.reduceReplicate, Nat.reduceAdd, Nat.reduceMul, Nat.reduceSub, Nat.reduceEqDiff, Nat.reduceLT, Nat.reduceLeDiff, Nat.reduceBEq, Int.reduceToNat, Int.reduceEq, Int.reduceLT, Int.reduceLE, Int.reduceAdd, Int.reduceSub, Int.reduceMul, ↓reduceIte, reduceCtorEq, Try.f5]; (repeat (refine aI ?_)); try (first | exact vI | fail))
theorem blocked_law (hv : 0 ≤ v ∧ v ≤ 255) (ha : 0 ≤ a ∧ a ≤ 65535) (hb : 0 ≤ b ∧ b ≤ 65535) : ACall Try.prog 5 [.val (.int .u8 v), .val (.int .u16 a), .val (.int .u16 b)] [] 0 (.val (.bool true)) [] := by
  obtain ⟨k, hk⟩ := Int.eq_ofNat_of_zero_le (show 0 ≤ 2 + v % 5 by omega)
  exact blocked_k (kk := k * k) hv ha hb hk (by simp)
end Go.Proofs.Ytphpjgfhdoobjaa
