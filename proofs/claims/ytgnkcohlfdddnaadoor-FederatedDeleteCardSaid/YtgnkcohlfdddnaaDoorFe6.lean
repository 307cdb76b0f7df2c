/- Quorums, greatest quorums, what a set blocks: both sides. No condition. -/
import Derived.Test.YtgnkcohlfdddnaaDoorFe5
import Derived.Test.YtgnkcohlfdddnaaDoorFeS
import Derived.Test.YtgnkcohlfdddnaaDoorBpB
import Derived.Test.YtgnkcohlfdddnaaDoorSymC
set_option linter.unusedVariables false
set_option linter.unusedSectionVars false
set_option linter.unusedSimpArgs false
set_option maxHeartbeats 2000000
set_option maxRecDepth 20000
namespace Go.Proofs.YtgnkcohlfdddnaaDoor
open Go Go.Sy Go.Bp
attribute [local irreducible] AO AL AC OpT ACall Ends DGo DRun Thn Blk Nxt
variable {z zl : Bool} {n i j m q s r L : Nat} {a b : Int} {x : Ex} {t : Nd} {l : List Ex}
def i2I (z : Bool) (F : Nat) (c1 c2 : List AV) (p : Int → Bool) (k : List Int) (n : Nat) (j : {j : Nat // j ≤ n ∧ ∀ i, i < j → p (k.getD i default) = false}) : St :=
  ⟨19, 0, [(0,.isl z (cI .i64 k) n), (1,.fn F [.ipt c1 0, .ipt c2 0]), (7,.val (.int .i64 n)), (8,.val (.int .i64 j.val))], []⟩
theorem idx2_ok {F : FuncId} [TPlain Tryd.prog F] {c1 c2 : List AV} {k : List Int} (p : Int → Bool) (hl : k.length = n) (hn : n < 2^47) (hf : ∀ j, j < n → ACall Tryd.prog F [.val (.int .i64 (k.getD j default)), .ipt c1 0, .ipt c2 0] [] 0 (.val (.bool (p (k.getD j default)))) []) :
    ACall Tryd.prog 83 [.isl z (cI .i64 k) n, .fn F [.ipt c1 0, .ipt c2 0]] [] 0 (.val (.int .i64 (ix p k))) [] := by
  refine ACall.enter Tryd.func83 rfl (by simp [Tryd.ntmps83]) (by simp) ?_; simp only [entry, idx, Tryd.ntmps83, List.length, List.map_cons, List.map_nil, List.append_nil, List.cons_append, List.nil_append, Nat.reduceAdd, Nat.zero_add, List.length_cons, List.length_nil]
  repeat' (first | (refine AC_loop_id ?_; refine AC_loop' [] ([].length) (i2I z F c1 c2 p k n) (fun j => n - j.val) (⟨0, by omega, fun i hi => absurd hi (by omega)⟩) rfl (by unfold i2I; (try simp only [List.cons_append, List.nil_append]); refine Sub.mk2 ?_; (simp -dsimp (disch := first | exact vD | fail) only [push_cast, simprocAttr]); (repeat (refine aI ?_)); (first | done | (first | exact vI | fail)); done) ?_; (rintro ⟨j, hj, hnb⟩; (simp -dsimp (disch := first | exact vD | fail) only [push_cast, simprocAttr, i2I]))) | (refine Nxt_id ?_; refine Nxt.mk [] (⟨j + 1, by omega, nx_false hnb (by assumption)⟩) rfl (by unfold i2I; (try simp only [List.cons_append, List.nil_append]); refine Sub.mk2 ?_; (simp -dsimp (disch := first | exact vD | fail) only [push_cast, simprocAttr]); (repeat (refine aI ?_)); (first | done | (first | exact vI | fail)); done) (by first | omega | (simp; done) | (simp; omega))) | (refine AC_seq ?_) | (refine AC_region_lit ?_) | ((first | refine AL_go rfl (fun K hK => ?_) | refine AL_go0 (fun K hK => ?_)); (first | refine R_callFnG (f := F) [] 0 false ?_); simp -dsimp (disch := first | exact vD | fail) only [push_cast, simprocAttr]; (repeat (refine aI ?_)); intro G hG; refine hG _ _ ?_; clear hG G; (first | refine ⟨_, _, hf j (by omega), ?_⟩); simp -dsimp (disch := first | exact vD | fail) only [push_cast, simprocAttr]; (repeat (refine aI ?_)); (first | refine hK _ _ _ ?_ | refine hK _ _ ?_); clear hK K) | ((first | refine AL_go rfl (fun K hK => ?_) | refine AL_go0 (fun K hK => ?_)); (first | refine R_move _ ?_ | refine R_assign _ ?_ | refine Q_load _ _ ?_ | refine Q_loadAgg _ _ ?_ | refine Q_indexAddr _ _ _ ?_ | refine Q_indexArr _ _ _ ?_ | refine Q_len _ _ ?_ | refine Q_lenStr _ _ ?_ | refine Q_bin _ _ _ _ _ ?_); simp -dsimp (disch := first | exact vD | fail) only [push_cast, simprocAttr]; (repeat (refine aI ?_)); (first | refine hK _ _ _ ?_ | refine hK _ _ ?_); clear hK K) | ((first | refine AL_guard rfl rfl (fun K1 K2 h1 h2 => ?_) rfl | refine AC_cond_k (fun K1 K2 h1 h2 => ?_)); simp -dsimp (disch := first | exact vD | fail) only [push_cast, simprocAttr]; (first | (refine ⟨fun hc => ?_, fun hc => ?_⟩ <;> first | (exfalso; omega) | (exfalso; contradiction) | refine h1 ?_ | refine h2 ?_) | refine h1 ?_ | refine h2 ?_); all_goals clear h1 h2 K1 K2) | (refine AL_nil ?_) | (refine Thn_normal ?_) | (refine Thn_ret ?_) | (refine Thn_exit ?_) | (refine Blk_normal ?_) | (refine Blk_ret ?_) | (refine Blk_here ?_) | (refine Blk_other rfl ?_) | (refine AC_block ?_) | (refine AC_exit ?_) | (refine AC_skip ?_) | (refine AC_ret ?_))
  all_goals first
    | (have e : ix p k = j := ix_hit (by omega) hnb (by assumption); (refine Ends.mk2 (by first | exact .inr rfl | exact .inl rfl) [] ?_; simp -dsimp (disch := first | exact vD | fail) only [push_cast, simprocAttr, Tryd.f83, e]; (repeat (refine aI ?_)); try (first | exact vI | fail)))
    | (have ej : j = n := (by omega); subst ej; subst hl; have e : ix p k = -1 := ix_none hnb; (refine Ends.mk2 (by first | exact .inr rfl | exact .inl rfl) [] ?_; simp -dsimp (disch := first | exact vD | fail) only [push_cast, simprocAttr, Tryd.f83, e]; (repeat (refine aI ?_)); try (first | exact vI | fail)))
theorem cont2_ok {F : FuncId} [TPlain Tryd.prog F] {c1 c2 : List AV} {k : List Int} (p : Int → Bool) (hl : k.length = n) (hn : n < 2^47) (hf : ∀ j, j < n → ACall Tryd.prog F [.val (.int .i64 (k.getD j default)), .ipt c1 0, .ipt c2 0] [] 0 (.val (.bool (p (k.getD j default)))) []) :
    ACall Tryd.prog 58 [.isl z (cI .i64 k) n, .fn F [.ipt c1 0, .ipt c2 0]] [] 0 (.val (.bool (k.any p))) [] := by
  refine ACall.enter Tryd.func58 rfl (by simp [Tryd.ntmps58]) (by simp) ?_; simp only [entry, idx, Tryd.ntmps58, List.length, List.map_cons, List.map_nil, List.append_nil, List.cons_append, List.nil_append, Nat.reduceAdd, Nat.zero_add, List.length_cons, List.length_nil]
  repeat' (first | (refine AC_seq ?_) | (refine AC_region_lit ?_) | ((first | refine AL_go rfl (fun K hK => ?_) | refine AL_go0 (fun K hK => ?_)); (first | refine R_callG (f := 83) [] 0 false ?_); simp -dsimp (disch := first | exact vD | fail) only [push_cast, simprocAttr, ix_any]; (repeat (refine aI ?_)); intro G hG; refine hG _ _ ?_; clear hG G; (first | refine ⟨_, _, idx2_ok p hl hn hf, ?_⟩); simp -dsimp (disch := first | exact vD | fail) only [push_cast, simprocAttr, ix_any]; (repeat (refine aI ?_)); (first | refine hK _ _ _ ?_ | refine hK _ _ ?_); clear hK K) | ((first | refine AL_go rfl (fun K hK => ?_) | refine AL_go0 (fun K hK => ?_)); (first | refine R_move _ ?_ | refine R_assign _ ?_ | refine Q_bin _ _ _ _ _ ?_); simp -dsimp (disch := first | exact vD | fail) only [push_cast, simprocAttr, ix_any]; (repeat (refine aI ?_)); (first | refine hK _ _ _ ?_ | refine hK _ _ ?_); clear hK K) | ((first | refine AL_guard rfl rfl (fun K1 K2 h1 h2 => ?_) rfl | refine AC_cond_k (fun K1 K2 h1 h2 => ?_)); simp -dsimp (disch := first | exact vD | fail) only [push_cast, simprocAttr, ix_any]; (first | (refine ⟨fun hc => ?_, fun hc => ?_⟩ <;> first | (exfalso; omega) | (exfalso; contradiction) | refine h1 ?_ | refine h2 ?_) | refine h1 ?_ | refine h2 ?_); all_goals clear h1 h2 K1 K2) | (refine AL_nil ?_) | (refine Thn_normal ?_) | (refine Thn_ret ?_) | (refine Thn_exit ?_) | (refine Blk_normal ?_) | (refine Blk_ret ?_) | (refine Blk_here ?_) | (refine Blk_other rfl ?_) | (refine AC_block ?_) | (refine AC_exit ?_) | (refine AC_skip ?_) | (refine AC_ret ?_))
  all_goals (refine Ends.mk2 (by first | exact .inr rfl | exact .inl rfl) [] ?_; simp -dsimp (disch := first | exact vD | fail) only [push_cast, simprocAttr, Tryd.f58, ix_any]; (repeat (refine aI ?_)); try (first | exact vI | fail))
def isI (zl : Bool) (l : List Ex) (L s : Nat) (i : {i : Nat // i ≤ L ∧ ∀ j, j < i → (!bit s j || satP l s j) = true}) : St :=
  ⟨26, 0, [(0,.isl zl (cR l) L), (1,.val (.int .u16 (U s))), (5,.val (.int .i64 i.val))], []⟩
theorem isQ_t (hL : l.length = L) (h : ∀ j, j < L → (!bit s j || satP l s j) = true) : isQ l s = !decide (s % 65536 = 0) := by
  unfold isQ
  have : ((List.range l.length).all fun i => !bit s i || satP l s i) = true := by
    rw [List.all_eq_true]; intro j hj; exact h j (by have := List.mem_range.1 hj; omega)
  rw [this, Bool.true_and]
theorem isQ_f (hL : i < l.length) (hb : bit s i = true) (hs : satP l s i = false) : isQ l s = false := by
  unfold isQ
  have : ((List.range l.length).all fun i => !bit s i || satP l s i) = false := by
    rw [List.all_eq_false]; exact ⟨i, List.mem_range.2 hL, by rw [hb, hs]; simp⟩
  rw [this, Bool.false_and]
theorem all_s {p : Nat → Bool} (h : ∀ j, j < i → p j = true) (hi : p i = true) : ∀ j, j < i + 1 → p j = true := fun j hj => by
  by_cases e : j = i
  · subst e; exact hi
  · exact h j (by omega)
theorem isq_ok (hl : LOk l) (hL : l.length = L) : ACall Tryd.prog 30 [.isl zl (cR l) L, .val (.int .u16 (U s))] [] 0 (.val (.bool (isQ l s))) [] := by
  have hle := hl.le
  have ho := PLift.up hl.ok
  have hb := dmy_def; have hst := dmy_def
  have hh := fun (i : Nat) (h : i < L) => PLift.up (rholdsU_ok (s := s) (ho.down i (by omega)).1 (ho.down i (by omega)).2.2)
  refine ACall.enter Tryd.func30 rfl (by simp [Tryd.ntmps30]) (by simp) ?_; simp only [entry, idx, Tryd.ntmps30, List.length, List.map_cons, List.map_nil, List.append_nil, List.cons_append, List.nil_append, Nat.reduceAdd, Nat.zero_add, List.length_cons, List.length_nil]
  repeat' (first | (refine AC_loop_id ?_; refine AC_loop' [] ([].length) (isI zl l L s) (fun i => L - i.val) (⟨0, by omega, fun j hj => absurd hj (by omega)⟩) rfl (by unfold isI; (try simp only [List.cons_append, List.nil_append]); refine Sub.mk2 ?_; (simp -dsimp (disch := first | exact vD | fail) only [push_cast, simprocAttr, hb, hst]); (repeat (refine aI ?_)); (first | done | (first | exact vI | fail)); done) ?_; (rintro ⟨i, hi, hp⟩; rcases Bool.eq_false_or_eq_true (bit s i) with hb | hb <;> rcases Bool.eq_false_or_eq_true (hold (bitI (s % 65536)) (l.getD i default)) with hst | hst <;> (simp -dsimp (disch := first | exact vD | fail) only [push_cast, simprocAttr, isI]))) | (refine Nxt_id ?_; refine Nxt.mk [] (⟨i + 1, by omega, all_s (p := fun j => Bool.or (!bit s j) (satP l s j)) hp (by show Bool.or (!bit s i) (satP l s i) = true; unfold satP; rw [hb]; try rw [hst]; first | rfl | (cases hold (bitI (s % 65536)) (l.getD i default) <;> rfl))⟩) rfl (by unfold isI; (try simp only [List.cons_append, List.nil_append]); refine Sub.mk2 ?_; (simp -dsimp (disch := first | exact vD | fail) only [push_cast, simprocAttr, hb, hst]); (repeat (refine aI ?_)); (first | done | (first | exact vI | fail)); done) (by first | omega | (simp; done) | (simp; omega))) | (refine AC_seq ?_) | (refine AC_region_lit ?_) | ((first | refine AL_go rfl (fun K hK => ?_) | refine AL_go0 (fun K hK => ?_)); (first | refine R_callG (f := 29) [] 0 false ?_ | refine R_callG (f := 61) [] 0 false ?_); simp -dsimp (disch := first | exact vD | fail) only [push_cast, simprocAttr, hb, hst]; (repeat (refine aI ?_)); intro G hG; refine hG _ _ ?_; clear hG G; (first | refine ⟨_, _, hasU_ok (s := s) (n := i) (by omega), ?_⟩ | refine ⟨_, _, (hh i (by omega)).down, ?_⟩); simp -dsimp (disch := first | exact vD | fail) only [push_cast, simprocAttr, hb, hst]; (repeat (refine aI ?_)); (first | refine hK _ _ _ ?_ | refine hK _ _ ?_); clear hK K) | ((first | refine AL_go rfl (fun K hK => ?_) | refine AL_go0 (fun K hK => ?_)); (first | refine R_move _ ?_ | refine R_assign _ ?_ | refine Q_load _ _ ?_ | refine Q_loadAgg _ _ ?_ | refine Q_indexAddr _ _ _ ?_ | refine Q_indexArr _ _ _ ?_ | refine Q_len _ _ ?_ | refine Q_lenStr _ _ ?_ | refine Q_pick _ _ _ ?_ | refine Q_not _ _ ?_ | refine Q_neg _ _ ?_ | refine Q_eqAgg _ _ _ _ ?_ | refine Q_neqAgg _ _ _ _ ?_ | refine Q_neqSelf _ _ _ _ ?_ | refine Q_bin _ _ _ _ _ ?_); simp -dsimp (disch := first | exact vD | fail) only [push_cast, simprocAttr, hb, hst]; (repeat (refine aI ?_)); (first | refine hK _ _ _ ?_ | refine hK _ _ ?_); clear hK K) | ((first | refine AL_guard rfl rfl (fun K1 K2 h1 h2 => ?_) rfl | refine AC_cond_k (fun K1 K2 h1 h2 => ?_)); simp -dsimp (disch := first | exact vD | fail) only [push_cast, simprocAttr, hb, hst]; (first | (refine ⟨fun hc => ?_, fun hc => ?_⟩ <;> first | (exfalso; omega) | (exfalso; contradiction) | refine h1 ?_ | refine h2 ?_) | refine h1 ?_ | refine h2 ?_); all_goals clear h1 h2 K1 K2) | (refine AL_nil ?_) | (refine Thn_normal ?_) | (refine Thn_ret ?_) | (refine Thn_exit ?_) | (refine Blk_normal ?_) | (refine Blk_ret ?_) | (refine Blk_here ?_) | (refine Blk_other rfl ?_) | (refine AC_block ?_) | (refine AC_exit ?_) | (refine AC_skip ?_) | (refine AC_ret ?_))
  all_goals first
    | (have e : isQ l s = false := isQ_f (i := i) (by omega) hb hst; (refine Ends.mk2 (by first | exact .inr rfl | exact .inl rfl) [] ?_; simp -dsimp (disch := first | exact vD | fail) only [push_cast, simprocAttr, Tryd.f30, e]; (repeat (refine aI ?_)); try (first | exact vI | fail)); done)
    | (have e : isQ l s = !decide (s % 65536 = 0) := isQ_t hL (fun j hj => hp j (by omega)); (refine Ends.mk2 (by first | exact .inr rfl | exact .inl rfl) [] ?_; simp -dsimp (disch := first | exact vD | fail) only [push_cast, simprocAttr, Tryd.f30, e]; (repeat (refine aI ?_)); try (first | exact vI | fail)); done)
    | trace_state
theorem chE_sub (h : chE l s = 0) (hL : l.length ≤ 16) : ∀ i, bit s i = true → i < l.length := by
  unfold chE at h
  split at h
  · exact absurd h (by assumption)
  · split at h
    · rename_i h2
      intro i hi
      have := sub_bit.1 h2 i hi
      rw [bit_full hL] at this; exact of_decide_eq_true this
    · cases h
theorem LOk.sh (hl : LOk l) (hL : l.length = L) : ∀ i, i < L → Short (l.getD i default) := fun i hi => (hl.ok i (by omega)).2.1
theorem LOk.av (hl : LOk l) : AllV l := fun i hi => validE_ok (hl.ok i hi).1
def rgI (zl : Bool) (l : List Ex) (L s : Nat) (q : {q : Nat // q ≤ 2 ^ L}) : St :=
  ⟨35, 0, [(0,.isl zl (cR l) L), (1,.val (.int .u16 (U s))), (7,.val (.int .u16 (U (unQ l s q.val)))), (8,.val (.int .u16 (U q.val)))], []⟩
theorem cutG_snoc (is : List Nat) (i r : Nat) : cutG l s (is ++ [i]) r = if satP l s i = true then cutG l s is r else sdif (cutG l s is r) (2 ^ i) := by
  induction is generalizing r with
  | nil => rfl
  | cons a is ih => simp only [List.cons_append, cutG, ih]
def cutK2 (l : List Ex) (s i : Nat) : Nat := cutG l s ((memN s 16).take i) s
theorem cutK2_0 : cutK2 l s 0 = s := rfl
theorem cutK2_take (hi : i < memL s 16) : (memN s 16).take (i + 1) = (memN s 16).take i ++ [piN s i] := by
  rw [memL_N] at hi
  rw [List.take_add_one]; simp [piN, List.getD_eq_getElem?_getD, List.getElem?_eq_getElem hi]
theorem cutK2_t (hi : i < memL s 16) (h : satP l s (piN s i) = true) : cutK2 l s (i + 1) = cutK2 l s i := by unfold cutK2; rw [cutK2_take hi, cutG_snoc, if_pos h]
theorem cutK2_f (hi : i < memL s 16) (h : satP l s (piN s i) = false) : cutK2 l s (i + 1) = sdif (cutK2 l s i) (2 ^ piN s i) := by unfold cutK2; rw [cutK2_take hi, cutG_snoc, if_neg (by rw [h]; simp)]
theorem cutK2_all : cutK2 l s (memL s 16) = stpG l s := by unfold cutK2 stpG; rw [memL_N, List.take_length]
theorem itG_0U : U s = U (itG l s 0) := by show U s = U (s % 65536); rw [U_mod]
attribute [local irreducible] memL mem cutK2 itG grt isQ unQ
def gtI (zl : Bool) (l : List Ex) (L s : Nat) (k : {k : Nat // memL (itG l s k) 16 + k ≤ 16}) : St :=
  ⟨31, 0, [(0,.isl zl (cR l) L), (1,.val (.int .u16 (U (itG l s k.val))))], []⟩
def gtJ (zl : Bool) (l : List Ex) (L s : Nat) (i : {i : Nat // i ≤ memL s 16}) : St :=
  ⟨31, 0, [(0,.isl zl (cR l) L), (1,.val (.int .u16 (U s))), (5,.val (.int .u16 (U (cutK2 l s i.val)))), (10,.isl (memL s 16 == 0) (cI .i64 (mem s 16)) (memL s 16)), (11,.val (.int .i64 (memL s 16))), (12,.val (.int .i64 i.val))], []⟩
end Go.Proofs.YtgnkcohlfdddnaaDoor
