/- Sets in order: comparing, both sides; whether a list of sets is a family, both sides. No condition. -/
import Derived.Test.YtabafldpnkjboaaDoorDi13
set_option linter.unusedVariables false
set_option linter.unusedSectionVars false
set_option linter.unusedSimpArgs false
set_option maxHeartbeats 4000000
set_option maxRecDepth 20000
namespace Go.Proofs.YtabafldpnkjboaaDoor
open Go Go.Sy Go.Bp Go.Dg
attribute [local irreducible] AO AL AC OpT ACall Ends DGo DRun Thn Blk Nxt
variable {n N M k i m r a b j w u v s q x y : Nat} {z : Bool} {xs : List Nat} {l : List Int} {p t : Int}
theorem nanI_ok : ACall Tryd.prog 77 [.val (.int .i64 p)] [] 0 (.val (.bool false)) [] := by
  refine ACall.enter Tryd.func77 rfl (by simp [Tryd.ntmps77]) (by simp) ?_; simp only [entry, idx, Tryd.ntmps77, List.length, List.map_cons, List.map_nil, List.append_nil, List.cons_append, List.nil_append, Nat.reduceAdd, Nat.zero_add, List.length_cons, List.length_nil]
  repeat' (first | apply AC_seq | apply AC_region_lit | ((first | refine AL_go rfl (fun K hK => ?_) | refine AL_go0 (fun K hK => ?_)); (first | apply R_move | apply R_assign | apply Q_eqAgg | apply Q_neqAgg | apply Q_neqSelf | apply Q_bin); simp -dsimp (disch := try exact vD) only [push_cast, simprocAttr]; (repeat refine aI ?_); apply hK; clear hK K) | ((first | refine AL_guard rfl rfl (fun K1 K2 h1 h2 => ?_) rfl | refine AC_cond_k (fun K1 K2 h1 h2 => ?_)); simp -dsimp (disch := try exact vD) only [push_cast, simprocAttr]; (first | (refine ⟨fun hc => ?_, fun hc => ?_⟩ <;> first | (exfalso; omega) | (exfalso; contradiction) | refine h1 ?_ | refine h2 ?_) | refine h1 ?_ | refine h2 ?_); all_goals clear h1 h2 K1 K2) | apply AL_nil | apply Thn_normal | apply Thn_ret | apply Thn_exit | apply Blk_normal | apply Blk_ret | apply Blk_here | (refine Blk_other rfl ?_) | apply AC_block | apply AC_exit | apply AC_skip | apply AC_ret)
  all_goals (refine Ends.mk2 (by first | exact .inr rfl | exact .inl rfl) [] ?_; simp -dsimp (disch := try exact vD) only [push_cast, simprocAttr, Tryd.f77]; (repeat refine aI ?_); try (first | exact vI | fail))
theorem nanS_ok : ACall Tryd.prog 78 [.val (.int .u16 p)] [] 0 (.val (.bool false)) [] := by
  refine ACall.enter Tryd.func78 rfl (by simp [Tryd.ntmps78]) (by simp) ?_; simp only [entry, idx, Tryd.ntmps78, List.length, List.map_cons, List.map_nil, List.append_nil, List.cons_append, List.nil_append, Nat.reduceAdd, Nat.zero_add, List.length_cons, List.length_nil]
  repeat' (first | apply AC_seq | apply AC_region_lit | ((first | refine AL_go rfl (fun K hK => ?_) | refine AL_go0 (fun K hK => ?_)); (first | apply R_move | apply R_assign | apply Q_eqAgg | apply Q_neqAgg | apply Q_neqSelf | apply Q_bin); simp -dsimp (disch := try exact vD) only [push_cast, simprocAttr]; (repeat refine aI ?_); apply hK; clear hK K) | ((first | refine AL_guard rfl rfl (fun K1 K2 h1 h2 => ?_) rfl | refine AC_cond_k (fun K1 K2 h1 h2 => ?_)); simp -dsimp (disch := try exact vD) only [push_cast, simprocAttr]; (first | (refine ⟨fun hc => ?_, fun hc => ?_⟩ <;> first | (exfalso; omega) | (exfalso; contradiction) | refine h1 ?_ | refine h2 ?_) | refine h1 ?_ | refine h2 ?_); all_goals clear h1 h2 K1 K2) | apply AL_nil | apply Thn_normal | apply Thn_ret | apply Thn_exit | apply Blk_normal | apply Blk_ret | apply Blk_here | (refine Blk_other rfl ?_) | apply AC_block | apply AC_exit | apply AC_skip | apply AC_ret)
  all_goals (refine Ends.mk2 (by first | exact .inr rfl | exact .inl rfl) [] ?_; simp -dsimp (disch := try exact vD) only [push_cast, simprocAttr, Tryd.f78]; (repeat refine aI ?_); try (first | exact vI | fail))
def cmpI (p t : Int) : Int := if p < t then -1 else if t < p then 1 else 0
theorem cmpI_ok : ACall Tryd.prog 69 [.val (.int .i64 p), .val (.int .i64 t)] [] 0 (.val (.int .i64 (cmpI p t))) [] := by
  have hx1 := dmy_def; have hx2 := dmy_def
  rcases Decidable.em (p < t) with hx1 | hx1 <;> rcases Decidable.em (t < p) with hx2 | hx2
  all_goals first
    | (have e : cmpI p t = -1 := (by unfold cmpI; rw [if_pos hx1]); rw [e])
    | (have e : cmpI p t = 1 := (by unfold cmpI; rw [if_neg hx1, if_pos hx2]); rw [e])
    | (have e : cmpI p t = 0 := (by unfold cmpI; rw [if_neg hx1, if_neg hx2]); rw [e])
  all_goals (refine ACall.enter Tryd.func69 rfl (by simp [Tryd.ntmps69]) (by simp) ?_; simp only [entry, idx, Tryd.ntmps69, List.length, List.map_cons, List.map_nil, List.append_nil, List.cons_append, List.nil_append, Nat.reduceAdd, Nat.zero_add, List.length_cons, List.length_nil])
  all_goals repeat' (first | apply AC_seq | apply AC_region_lit | ((first | refine AL_go rfl (fun K hK => ?_) | refine AL_go0 (fun K hK => ?_)); (first | refine R_callG (f := 77) [] 0 false ?_); simp -dsimp (disch := try exact vD) only [push_cast, simprocAttr, hx1, hx2]; (repeat refine aI ?_); intro G hG; refine hG _ _ ?_; clear hG G; (first | refine ⟨_, _, nanI_ok, ?_⟩); simp -dsimp (disch := try exact vD) only [push_cast, simprocAttr, hx1, hx2]; (repeat refine aI ?_); apply hK; clear hK K) | ((first | refine AL_go rfl (fun K hK => ?_) | refine AL_go0 (fun K hK => ?_)); (first | apply R_move | apply R_assign | apply Q_bin); simp -dsimp (disch := try exact vD) only [push_cast, simprocAttr, hx1, hx2]; (repeat refine aI ?_); apply hK; clear hK K) | ((first | refine AL_guard rfl rfl (fun K1 K2 h1 h2 => ?_) rfl | refine AC_cond_k (fun K1 K2 h1 h2 => ?_)); simp -dsimp (disch := try exact vD) only [push_cast, simprocAttr, hx1, hx2]; (first | (refine ⟨fun hc => ?_, fun hc => ?_⟩ <;> first | (exfalso; omega) | (exfalso; contradiction) | refine h1 ?_ | refine h2 ?_) | refine h1 ?_ | refine h2 ?_); all_goals clear h1 h2 K1 K2) | apply AL_nil | apply Thn_normal | apply Thn_ret | apply Thn_exit | apply Blk_normal | apply Blk_ret | apply Blk_here | (refine Blk_other rfl ?_) | apply AC_block | apply AC_exit | apply AC_skip | apply AC_ret)
  all_goals (refine Ends.mk2 (by first | exact .inr rfl | exact .inl rfl) [] ?_; simp -dsimp (disch := try exact vD) only [push_cast, simprocAttr, Tryd.f69, hx1, hx2]; (repeat refine aI ?_); try (first | exact vI | fail))
theorem cmpS_ok : ACall Tryd.prog 70 [.val (.int .u16 p), .val (.int .u16 t)] [] 0 (.val (.int .i64 (cmpI p t))) [] := by
  have hx1 := dmy_def; have hx2 := dmy_def
  rcases Decidable.em (p < t) with hx1 | hx1 <;> rcases Decidable.em (t < p) with hx2 | hx2
  all_goals first
    | (have e : cmpI p t = -1 := (by unfold cmpI; rw [if_pos hx1]); rw [e])
    | (have e : cmpI p t = 1 := (by unfold cmpI; rw [if_neg hx1, if_pos hx2]); rw [e])
    | (have e : cmpI p t = 0 := (by unfold cmpI; rw [if_neg hx1, if_neg hx2]); rw [e])
  all_goals (refine ACall.enter Tryd.func70 rfl (by simp [Tryd.ntmps70]) (by simp) ?_; simp only [entry, idx, Tryd.ntmps70, List.length, List.map_cons, List.map_nil, List.append_nil, List.cons_append, List.nil_append, Nat.reduceAdd, Nat.zero_add, List.length_cons, List.length_nil])
  all_goals repeat' (first | apply AC_seq | apply AC_region_lit | ((first | refine AL_go rfl (fun K hK => ?_) | refine AL_go0 (fun K hK => ?_)); (first | refine R_callG (f := 78) [] 0 false ?_); simp -dsimp (disch := try exact vD) only [push_cast, simprocAttr, hx1, hx2]; (repeat refine aI ?_); intro G hG; refine hG _ _ ?_; clear hG G; (first | refine ⟨_, _, nanS_ok, ?_⟩); simp -dsimp (disch := try exact vD) only [push_cast, simprocAttr, hx1, hx2]; (repeat refine aI ?_); apply hK; clear hK K) | ((first | refine AL_go rfl (fun K hK => ?_) | refine AL_go0 (fun K hK => ?_)); (first | apply R_move | apply R_assign | apply Q_bin); simp -dsimp (disch := try exact vD) only [push_cast, simprocAttr, hx1, hx2]; (repeat refine aI ?_); apply hK; clear hK K) | ((first | refine AL_guard rfl rfl (fun K1 K2 h1 h2 => ?_) rfl | refine AC_cond_k (fun K1 K2 h1 h2 => ?_)); simp -dsimp (disch := try exact vD) only [push_cast, simprocAttr, hx1, hx2]; (first | (refine ⟨fun hc => ?_, fun hc => ?_⟩ <;> first | (exfalso; omega) | (exfalso; contradiction) | refine h1 ?_ | refine h2 ?_) | refine h1 ?_ | refine h2 ?_); all_goals clear h1 h2 K1 K2) | apply AL_nil | apply Thn_normal | apply Thn_ret | apply Thn_exit | apply Blk_normal | apply Blk_ret | apply Blk_here | (refine Blk_other rfl ?_) | apply AC_block | apply AC_exit | apply AC_skip | apply AC_ret)
  all_goals (refine Ends.mk2 (by first | exact .inr rfl | exact .inl rfl) [] ?_; simp -dsimp (disch := try exact vD) only [push_cast, simprocAttr, Tryd.f70, hx1, hx2]; (repeat refine aI ?_); try (first | exact vI | fail))
def orL : List Int → Int
  | [] => 0
  | x :: l => if x = 0 then orL l else x
theorem orL_drop (h : l.getD i default = 0) : orL (l.drop i) = orL (l.drop (i + 1)) := by
  by_cases hi : i < l.length
  · rw [List.drop_eq_getElem_cons hi]
    have e : l[i] = 0 := by rw [← h, List.getD_eq_getElem?_getD, List.getElem?_eq_getElem hi]; rfl
    rw [orL, if_pos e]
  · rw [List.drop_eq_nil_of_le (by omega), List.drop_eq_nil_of_le (by omega)]
theorem orL_hit (hi : i < l.length) (h : ¬ l.getD i default = 0) : orL (l.drop i) = l.getD i default := by
  have e : l.getD i default = l[i] := by rw [List.getD_eq_getElem?_getD, List.getElem?_eq_getElem hi]; rfl
  rw [e] at h ⊢
  rw [List.drop_eq_getElem_cons hi, orL, if_neg h]
def cmOI (z : Bool) (l : List Int) (n : Nat) (v : Int) (i : {i : Nat // i ≤ n ∧ orL (l.drop i) = v}) : St :=
  ⟨18, 0, [(3,.val (.int .i64 0)), (6,.isl z (cI .i64 l) n), (7,.val (.int .i64 n)), (8,.val (.int .i64 i.val))], []⟩
theorem or_ok (hl : l.length = n) (hn : n < 2 ^ 40) : ACall Tryd.prog 68 [.isl z (cI .i64 l) n] [] 0 (.val (.int .i64 (orL l))) [] := by
  generalize hv : orL l = v
  have h0 : 0 ≤ n ∧ orL (l.drop 0) = v := ⟨Nat.zero_le _, hv⟩
  have hx := dmy_def
  refine ACall.enter Tryd.func68 rfl (by simp [Tryd.ntmps68]) (by simp) ?_; simp only [entry, idx, Tryd.ntmps68, List.length, List.map_cons, List.map_nil, List.append_nil, List.cons_append, List.nil_append, Nat.reduceAdd, Nat.zero_add, List.length_cons, List.length_nil]
  repeat' (first | (refine AC_loop_id ?_; refine AC_loop' [] ([].length) (cmOI z l n v) (fun i => n - i.val) (⟨0, h0⟩) rfl (by unfold cmOI; (try simp only [List.cons_append, List.nil_append]); refine Sub.mk2 ?_; (simp -dsimp (disch := try exact vD) only [push_cast, simprocAttr, hx]); (repeat refine aI ?_); first | done | exact vI) ?_; (rintro ⟨i, hi, hv1⟩; rcases Nat.lt_or_eq_of_le hi with hil | hil <;> first | (have ei : n = i := hil.symm; subst ei; (simp -dsimp (disch := try exact vD) only [push_cast, simprocAttr, cmOI])) | (rcases Decidable.em (l.getD i default = 0) with hx | hx <;> (simp -dsimp (disch := try exact vD) only [push_cast, simprocAttr, cmOI])))) | (refine Nxt_id ?_; refine Nxt.mk [] (⟨i + 1, by omega, by rw [← orL_drop hx]; exact hv1⟩) rfl (by unfold cmOI; (try simp only [List.cons_append, List.nil_append]); refine Sub.mk2 ?_; (simp -dsimp (disch := try exact vD) only [push_cast, simprocAttr, hx]); (repeat refine aI ?_); first | done | exact vI) (by first | omega | (dsimp only; omega) | (simp; done) | (simp; omega))) | apply AC_seq | apply AC_region_lit | ((first | refine AL_go rfl (fun K hK => ?_) | refine AL_go0 (fun K hK => ?_)); (first | apply R_move | apply R_assign | apply Q_load | apply Q_loadAgg | apply Q_indexAddr | apply Q_indexArr | apply Q_len | apply Q_lenStr | apply Q_eqAgg | apply Q_neqAgg | apply Q_neqSelf | apply Q_bin); simp -dsimp (disch := try exact vD) only [push_cast, simprocAttr, hx]; (repeat refine aI ?_); apply hK; clear hK K) | ((first | refine AL_guard rfl rfl (fun K1 K2 h1 h2 => ?_) rfl | refine AC_cond_k (fun K1 K2 h1 h2 => ?_)); simp -dsimp (disch := try exact vD) only [push_cast, simprocAttr, hx]; (first | (refine ⟨fun hc => ?_, fun hc => ?_⟩ <;> first | (exfalso; omega) | (exfalso; contradiction) | refine h1 ?_ | refine h2 ?_) | refine h1 ?_ | refine h2 ?_); all_goals clear h1 h2 K1 K2) | apply AL_nil | apply Thn_normal | apply Thn_ret | apply Thn_exit | apply Blk_normal | apply Blk_ret | apply Blk_here | (refine Blk_other rfl ?_) | apply AC_block | apply AC_exit | apply AC_skip | apply AC_ret)
  all_goals first
    | (have e : v = 0 := (by rw [← hv1, ← hl, List.drop_length]; rfl); rw [e]; (refine Ends.mk2 (by first | exact .inr rfl | exact .inl rfl) [] ?_; simp -dsimp (disch := try exact vD) only [push_cast, simprocAttr, Tryd.f68]; (repeat refine aI ?_); try (first | exact vI | fail)); done)
    | (have e : v = l.getD i default := (by rw [← hv1]; exact orL_hit (by omega) hx); rw [e]; (refine Ends.mk2 (by first | exact .inr rfl | exact .inl rfl) [] ?_; simp -dsimp (disch := try exact vD) only [push_cast, simprocAttr, Tryd.f68]; (repeat refine aI ?_); try (first | exact vI | fail)); done)
    | trace_state
def cmpSet (s q : Nat) : Int := orL [cmpI (memL s 16) (memL q 16), cmpI (U s) (U q)]
theorem compare_ok : ACall Tryd.prog 53 [.val (.int .u16 (U s)), .val (.int .u16 (U q))] [] 0 (.val (.int .i64 (cmpSet s q))) [] := by
  have ho := PLift.up (or_ok (z := false) (l := [cmpI (memL s 16) (memL q 16), cmpI (U s) (U q)]) (n := 2) rfl (by decide))
  unfold cmpSet
  generalize orL [cmpI (memL s 16) (memL q 16), cmpI (U s) (U q)] = v at ho ⊢
  refine ACall.enter Tryd.func53 rfl (by simp [Tryd.ntmps53]) (by simp) ?_; simp only [entry, idx, Tryd.ntmps53, List.length, List.map_cons, List.map_nil, List.append_nil, List.cons_append, List.nil_append, Nat.reduceAdd, Nat.zero_add, List.length_cons, List.length_nil]
  repeat' (first | apply AC_seq | apply AC_region_lit | ((first | refine AL_go rfl (fun K hK => ?_) | refine AL_go0 (fun K hK => ?_)); (first | refine R_callG (f := 59) (dst := some 6) [] 0 false ?_ | refine R_callG (f := 59) (dst := some 8) [] 0 false ?_ | refine R_callG (f := 69) [] 0 false ?_ | refine R_callG (f := 70) [] 0 false ?_ | refine R_callG (f := 68) [] 0 true ?_); simp -dsimp (disch := try exact vD) only [push_cast, simprocAttr]; (repeat refine aI ?_); intro G hG; refine hG _ _ ?_; clear hG G; (first | refine ⟨_, _, cnt_ok (s := s), ?_⟩ | refine ⟨_, _, cnt_ok (s := q), ?_⟩ | refine ⟨_, _, cmpI_ok, ?_⟩ | refine ⟨_, _, cmpS_ok, ?_⟩ | refine ⟨_, _, ho.down, ?_⟩); simp -dsimp (disch := try exact vD) only [push_cast, simprocAttr]; (repeat refine aI ?_); apply hK; clear hK K) | ((first | refine AL_go rfl (fun K hK => ?_) | refine AL_go0 (fun K hK => ?_)); (first | apply R_move | apply R_assign | apply Q_buildSlice); simp -dsimp (disch := try exact vD) only [push_cast, simprocAttr]; (repeat refine aI ?_); apply hK; clear hK K) | ((first | refine AL_guard rfl rfl (fun K1 K2 h1 h2 => ?_) rfl | refine AC_cond_k (fun K1 K2 h1 h2 => ?_)); simp -dsimp (disch := try exact vD) only [push_cast, simprocAttr]; (first | (refine ⟨fun hc => ?_, fun hc => ?_⟩ <;> first | (exfalso; omega) | (exfalso; contradiction) | refine h1 ?_ | refine h2 ?_) | refine h1 ?_ | refine h2 ?_); all_goals clear h1 h2 K1 K2) | apply AL_nil | apply Thn_normal | apply Thn_ret | apply Thn_exit | apply Blk_normal | apply Blk_ret | apply Blk_here | (refine Blk_other rfl ?_) | apply AC_block | apply AC_exit | apply AC_skip | apply AC_ret)
  all_goals first
    | ((refine Ends.mk2 (by first | exact .inr rfl | exact .inl rfl) [] ?_; simp -dsimp (disch := try exact vD) only [push_cast, simprocAttr, Tryd.f53]; (repeat refine aI ?_); try (first | exact vI | fail)); done)
    | trace_state
def bef (s q : Nat) : Bool := if memL s 16 = memL q 16 then decide (s % 65536 < q % 65536) else decide (memL s 16 < memL q 16)
theorem cmpI_neg : cmpI p t < 0 ↔ p < t := by unfold cmpI; split <;> (try split) <;> omega
theorem cmpI_zero : cmpI p t = 0 ↔ p = t := by unfold cmpI; split <;> (try split) <;> omega
theorem cmp_bef : (0 ≤ cmpSet s q) = (bef s q = false) := by
  unfold cmpSet orL orL orL bef
  apply propext
  have h1 := cmpI_neg (p := (memL s 16 : Int)) (t := memL q 16)
  have h2 := cmpI_zero (p := (memL s 16 : Int)) (t := memL q 16)
  have h3 := cmpI_neg (p := U s) (t := U q)
  unfold U at *
  by_cases e : memL s 16 = memL q 16
  · rw [if_pos e, if_pos (h2.2 (by omega))]
    by_cases e2 : cmpI ((s % 65536 : Nat) : Int) ((q % 65536 : Nat) : Int) = 0
    · rw [if_pos e2]; have := cmpI_zero.1 e2; simp; omega
    · rw [if_neg e2, decide_eq_false_iff_not]; omega
  · rw [if_neg e, if_neg (fun h => e (by have := h2.1 h; omega)), decide_eq_false_iff_not]; omega
theorem bit_raw (h : i < 16) : bit s i = s.testBit i := by unfold bit; rw [mod_bit h]
def rsI (s : Nat) (i : {i : Nat // i ≤ 16}) : St := ⟨17, 0, [(0,.val (.int .u16 (U s))), (3,.val (.int .i64 (memL s i.val : Nat))), (4,.val (.int .i64 i.val))], []⟩
theorem rsize_ok : ACall Tryd.prog 76 [.val (.int .u16 (U s))] [] 0 (.val (.int .i64 (memL s 16 : Nat))) [] := by
  have hx := dmy_def; have hm := dmy_def
  have h0 : memL s 0 = 0 := rfl
  refine ACall.enter Tryd.func76 rfl (by simp [Tryd.ntmps76]) (by simp) ?_; simp only [entry, idx, Tryd.ntmps76, List.length, List.map_cons, List.map_nil, List.append_nil, List.cons_append, List.nil_append, Nat.reduceAdd, Nat.zero_add, List.length_cons, List.length_nil]
  repeat' (first | (refine AC_loop_id ?_; refine AC_loop' [] ([].length) (rsI s) (fun i => 16 - i.val) (⟨0, by omega⟩) rfl (by unfold rsI; (try simp only [List.cons_append, List.nil_append]); refine Sub.mk2 ?_; (simp -dsimp (disch := try exact vD) only [push_cast, simprocAttr, hx, hm, h0]); (repeat refine aI ?_); first | done | exact vI) ?_; (rintro ⟨i, hi⟩; rcases Nat.lt_or_eq_of_le hi with hil | hil <;> first | (subst hil; (simp -dsimp (disch := try exact vD) only [push_cast, simprocAttr, rsI])) | (have hle := memL_le (s := s) (j := i); rcases Bool.eq_false_or_eq_true (bit s i) with hx | hx <;> first | (have hm : memL s (i + 1) = memL s i + 1 := (by rw [memL_cb]; unfold cb; rw [if_pos (by rw [← bit_raw hil]; exact hx)]); (simp -dsimp (disch := try exact vD) only [push_cast, simprocAttr, rsI])) | (have hm : memL s (i + 1) = memL s i := (by rw [memL_cb]; unfold cb; rw [if_neg (by rw [← bit_raw hil, hx]; simp), Nat.add_zero]); (simp -dsimp (disch := try exact vD) only [push_cast, simprocAttr, rsI]))))) | (refine Nxt_id ?_; refine Nxt.mk [] (⟨i + 1, by omega⟩) rfl (by unfold rsI; (try simp only [List.cons_append, List.nil_append]); refine Sub.mk2 ?_; (simp -dsimp (disch := try exact vD) only [push_cast, simprocAttr, hx, hm, h0]); (repeat refine aI ?_); first | done | exact vI) (by first | omega | (dsimp only; omega) | (simp; done) | (simp; omega))) | apply AC_seq | apply AC_region_lit | ((first | refine AL_go rfl (fun K hK => ?_) | refine AL_go0 (fun K hK => ?_)); (first | apply R_move | apply R_assign | apply Q_convert | apply Q_bin); simp -dsimp (disch := try exact vD) only [push_cast, simprocAttr, hx, hm, h0]; (repeat refine aI ?_); apply hK; clear hK K) | ((first | refine AL_guard rfl rfl (fun K1 K2 h1 h2 => ?_) rfl | refine AC_cond_k (fun K1 K2 h1 h2 => ?_)); simp -dsimp (disch := try exact vD) only [push_cast, simprocAttr, hx, hm, h0]; (first | (refine ⟨fun hc => ?_, fun hc => ?_⟩ <;> first | (exfalso; omega) | (exfalso; contradiction) | refine h1 ?_ | refine h2 ?_) | refine h1 ?_ | refine h2 ?_); all_goals clear h1 h2 K1 K2) | apply AL_nil | apply Thn_normal | apply Thn_ret | apply Thn_exit | apply Blk_normal | apply Blk_ret | apply Blk_here | (refine Blk_other rfl ?_) | apply AC_block | apply AC_exit | apply AC_skip | apply AC_ret)
  all_goals first
    | ((refine Ends.mk2 (by first | exact .inr rfl | exact .inl rfl) [] ?_; simp -dsimp (disch := try exact vD) only [push_cast, simprocAttr, Tryd.f76]; (repeat refine aI ?_); try (first | exact vI | fail)); done)
    | trace_state
theorem before_ok : ACall Tryd.prog 66 [.val (.int .u16 (U s)), .val (.int .u16 (U q))] [] 0 (.val (.bool (bef s q))) [] := by
  have hx := dmy_def
  unfold bef
  obtain ⟨m1, hm1⟩ : ∃ m1, memL s 16 = m1 := ⟨_, rfl⟩
  obtain ⟨m2, hm2⟩ : ∃ m2, memL q 16 = m2 := ⟨_, rfl⟩
  have hz1 := PLift.up (rsize_ok (s := s))
  have hz2 := PLift.up (rsize_ok (s := q))
  rw [hm1] at hz1 ⊢; rw [hm2] at hz2 ⊢
  by_cases hx : m1 = m2
  · subst hx
    rw [if_pos rfl]
    refine ACall.enter Tryd.func66 rfl (by simp [Tryd.ntmps66]) (by simp) ?_; simp only [entry, idx, Tryd.ntmps66, List.length, List.map_cons, List.map_nil, List.append_nil, List.cons_append, List.nil_append, Nat.reduceAdd, Nat.zero_add, List.length_cons, List.length_nil]
    repeat' (first | apply AC_seq | apply AC_region_lit | ((first | refine AL_go rfl (fun K hK => ?_) | refine AL_go0 (fun K hK => ?_)); (first | refine R_callG (f := 76) (dst := some 6) [] 0 false ?_ | refine R_callG (f := 76) (dst := some 8) [] 0 false ?_ | refine R_callG (f := 76) (dst := some 11) [] 0 false ?_ | refine R_callG (f := 76) (dst := some 13) [] 0 false ?_); simp -dsimp (disch := try exact vD) only [push_cast, simprocAttr]; (repeat refine aI ?_); intro G hG; refine hG _ _ ?_; clear hG G; (first | refine ⟨_, _, hz1.down, ?_⟩ | refine ⟨_, _, hz2.down, ?_⟩ | refine ⟨_, _, hz1.down, ?_⟩ | refine ⟨_, _, hz2.down, ?_⟩); simp -dsimp (disch := try exact vD) only [push_cast, simprocAttr]; (repeat refine aI ?_); apply hK; clear hK K) | ((first | refine AL_go rfl (fun K hK => ?_) | refine AL_go0 (fun K hK => ?_)); (first | apply R_move | apply R_assign | apply Q_eqAgg | apply Q_neqAgg | apply Q_neqSelf | apply Q_bin); simp -dsimp (disch := try exact vD) only [push_cast, simprocAttr]; (repeat refine aI ?_); apply hK; clear hK K) | ((first | refine AL_guard rfl rfl (fun K1 K2 h1 h2 => ?_) rfl | refine AC_cond_k (fun K1 K2 h1 h2 => ?_)); simp -dsimp (disch := try exact vD) only [push_cast, simprocAttr]; (first | (refine ⟨fun hc => ?_, fun hc => ?_⟩ <;> first | (exfalso; omega) | (exfalso; contradiction) | refine h1 ?_ | refine h2 ?_) | refine h1 ?_ | refine h2 ?_); all_goals clear h1 h2 K1 K2) | apply AL_nil | apply Thn_normal | apply Thn_ret | apply Thn_exit | apply Blk_normal | apply Blk_ret | apply Blk_here | (refine Blk_other rfl ?_) | apply AC_block | apply AC_exit | apply AC_skip | apply AC_ret)
    all_goals first
      | ((refine Ends.mk2 (by first | exact .inr rfl | exact .inl rfl) [] ?_; simp -dsimp (disch := try exact vD) only [push_cast, simprocAttr, Tryd.f66]; (repeat refine aI ?_); try (first | exact vI | fail)); done)
      | trace_state
  · rw [if_neg hx]
    have hx2 : ((m1 : Int) = m2) = False := eq_false (by omega)
    have hx3 : decide (m1 < m2) = decide ((m1 : Int) < m2) := decide_eq_decide.2 ⟨fun h => by omega, fun h => by omega⟩
    rw [hx3]
    refine ACall.enter Tryd.func66 rfl (by simp [Tryd.ntmps66]) (by simp) ?_; simp only [entry, idx, Tryd.ntmps66, List.length, List.map_cons, List.map_nil, List.append_nil, List.cons_append, List.nil_append, Nat.reduceAdd, Nat.zero_add, List.length_cons, List.length_nil]
    repeat' (first | apply AC_seq | apply AC_region_lit | ((first | refine AL_go rfl (fun K hK => ?_) | refine AL_go0 (fun K hK => ?_)); (first | refine R_callG (f := 76) (dst := some 6) [] 0 false ?_ | refine R_callG (f := 76) (dst := some 8) [] 0 false ?_ | refine R_callG (f := 76) (dst := some 11) [] 0 false ?_ | refine R_callG (f := 76) (dst := some 13) [] 0 false ?_); simp -dsimp (disch := try exact vD) only [push_cast, simprocAttr, hx2]; (repeat refine aI ?_); intro G hG; refine hG _ _ ?_; clear hG G; (first | refine ⟨_, _, hz1.down, ?_⟩ | refine ⟨_, _, hz2.down, ?_⟩ | refine ⟨_, _, hz1.down, ?_⟩ | refine ⟨_, _, hz2.down, ?_⟩); simp -dsimp (disch := try exact vD) only [push_cast, simprocAttr, hx2]; (repeat refine aI ?_); apply hK; clear hK K) | ((first | refine AL_go rfl (fun K hK => ?_) | refine AL_go0 (fun K hK => ?_)); (first | apply R_move | apply R_assign | apply Q_eqAgg | apply Q_neqAgg | apply Q_neqSelf | apply Q_bin); simp -dsimp (disch := try exact vD) only [push_cast, simprocAttr, hx2]; (repeat refine aI ?_); apply hK; clear hK K) | ((first | refine AL_guard rfl rfl (fun K1 K2 h1 h2 => ?_) rfl | refine AC_cond_k (fun K1 K2 h1 h2 => ?_)); simp -dsimp (disch := try exact vD) only [push_cast, simprocAttr, hx2]; (first | (refine ⟨fun hc => ?_, fun hc => ?_⟩ <;> first | (exfalso; omega) | (exfalso; contradiction) | refine h1 ?_ | refine h2 ?_) | refine h1 ?_ | refine h2 ?_); all_goals clear h1 h2 K1 K2) | apply AL_nil | apply Thn_normal | apply Thn_ret | apply Thn_exit | apply Blk_normal | apply Blk_ret | apply Blk_here | (refine Blk_other rfl ?_) | apply AC_block | apply AC_exit | apply AC_skip | apply AC_ret)
    all_goals first
      | ((refine Ends.mk2 (by first | exact .inr rfl | exact .inl rfl) [] ?_; simp -dsimp (disch := try exact vD) only [push_cast, simprocAttr, Tryd.f66]; (repeat refine aI ?_); try (first | exact vI | fail)); done)
      | trace_state
theorem r8cont_ok : ACall Tryd.prog 46 [.val (.int .u16 (U s)), .val (.int .u16 (U q))] [] 0 (.val (.bool (decide (sdif q s % 65536 = 0)))) [] := by
  refine ACall.enter Tryd.func46 rfl (by simp [Tryd.ntmps46]) (by simp) ?_; simp only [entry, idx, Tryd.ntmps46, List.length, List.map_cons, List.map_nil, List.append_nil, List.cons_append, List.nil_append, Nat.reduceAdd, Nat.zero_add, List.length_cons, List.length_nil]
  repeat' (first | apply AC_seq | apply AC_region_lit | ((first | refine AL_go rfl (fun K hK => ?_) | refine AL_go0 (fun K hK => ?_)); (first | apply R_move | apply R_assign | apply Q_eqAgg | apply Q_neqAgg | apply Q_neqSelf | apply Q_bin); simp -dsimp (disch := try exact vD) only [push_cast, simprocAttr]; (repeat refine aI ?_); apply hK; clear hK K) | ((first | refine AL_guard rfl rfl (fun K1 K2 h1 h2 => ?_) rfl | refine AC_cond_k (fun K1 K2 h1 h2 => ?_)); simp -dsimp (disch := try exact vD) only [push_cast, simprocAttr]; (first | (refine ⟨fun hc => ?_, fun hc => ?_⟩ <;> first | (exfalso; omega) | (exfalso; contradiction) | refine h1 ?_ | refine h2 ?_) | refine h1 ?_ | refine h2 ?_); all_goals clear h1 h2 K1 K2) | apply AL_nil | apply Thn_normal | apply Thn_ret | apply Thn_exit | apply Blk_normal | apply Blk_ret | apply Blk_here | (refine Blk_other rfl ?_) | apply AC_block | apply AC_exit | apply AC_skip | apply AC_ret)
  all_goals (refine Ends.mk2 (by first | exact .inr rfl | exact .inl rfl) [] ?_; simp -dsimp (disch := try exact vD) only [push_cast, simprocAttr, Tryd.f46]; (repeat refine aI ?_); try (first | exact vI | fail))
end Go.Proofs.YtabafldpnkjboaaDoor
