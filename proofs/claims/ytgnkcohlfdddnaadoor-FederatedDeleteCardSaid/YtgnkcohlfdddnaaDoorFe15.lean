/- The minimal quorums of a federation, two that share nothing: the program's side. No condition. -/
import Derived.Test.YtgnkcohlfdddnaaDoorFe14
import Derived.Test.YtgnkcohlfdddnaaDoorBpB
set_option linter.unusedVariables false
set_option linter.unusedSectionVars false
set_option linter.unusedSimpArgs false
set_option maxHeartbeats 2000000
set_option maxRecDepth 20000
namespace Go.Proofs.YtgnkcohlfdddnaaDoor
open Go Go.Sy Go.Bp
attribute [local irreducible] AO AL AC OpT ACall Ends DGo DRun Thn Blk Nxt
variable {z zl : Bool} {n i j m q s d L N : Nat} {l : List Ex}
def lsV (qs : List Nat) : AV := .isl (qs.length == 0) (cX qs) qs.length
theorem tabT_at (hi : i < L) (hs : s % 65536 < N) : tabP (tabT l N L) i s = satP l s i := by
  have e : (tabT l N L).getD i default = rowT l N i := by
    unfold tabT
    rw [List.getD_eq_getElem?_getD, List.getElem?_map, List.getElem?_range hi]; rfl
  have e2 : (rowA (fun s => satP l s i) N N).getD (s % 65536) default = satP l (s % 65536) i := by
    unfold rowA
    rw [List.getD_eq_getElem?_getD, List.getElem?_map, List.getElem?_range hs]
    simp only [Option.map_some, Option.getD_some, decide_eq_true hs, Bool.true_and]
  unfold tabP
  rw [e]; unfold rowT; rw [e2]
  unfold satP; rw [Nat.mod_mod]
theorem tabT_row (hi : i < L) : ((tabT l N L).getD i default).l.length = N := by
  unfold tabT
  rw [List.getD_eq_getElem?_getD, List.getElem?_map, List.getElem?_range hi]
  exact rowA_len
theorem pT_quo (h12 : l.length ≤ 12) (hq : ∀ i, bit q i = true → i < l.length) (hd : ∀ i, bit d i = true → i < l.length) : pT (tabT l (2 ^ l.length) l.length) d q = quoP l d q := by
  have hb : ∀ i, bit (sor q d) i = true → i < l.length := fun i hi => by
    rw [bit_sor] at hi
    rcases Bool.or_eq_true _ _ ▸ hi with hi | hi
    · exact hq i hi
    · exact hd i hi
  have hlt := bits_lt hb
  unfold pT quoP
  rw [any_N (p := fun i => !tabP (tabT l (2 ^ l.length) l.length) i (sor q d)), Bool.eq_iff_iff, Bool.not_eq_true', List.any_eq_false, List.all_eq_true]
  refine ⟨fun h i hi => ?_, fun h i hi => ?_⟩
  all_goals
    have hil := hq i (by unfold bit; rw [mod_bit (memN_mem.1 hi).1]; exact (memN_mem.1 hi).2)
    have := h i hi
    rw [tabT_at hil hlt] at *
    simpa using this
theorem minT_ok (hL : l.length = L) (h6 : L ≤ 6) (hd : ∀ i, bit d i = true → i < L) :
    ACall Tryd.prog 40 [.isl false (cX (tabT l (2 ^ L) L)) L, .val (.int .u16 (U d))] [] 0 (lsV (minQ l d)) [] := by
  subst hL
  have h := min_ok (rows := tabT l (2 ^ l.length) l.length) (d := d) tabT_len h6 (fun i hi => tabT_row hi) hd rfl rfl rfl
  have e : minQ l d = minA (pT (tabT l (2 ^ l.length) l.length) d) (subs (sdif (fullS l.length) d)) (subs (sdif (fullS l.length) d)).length := by
    exact minW_congr (fun q hq _ => (pT_quo (by omega) (fun i hi => subs_in h6 hq hi) hd).symm)
  unfold lsV
  rw [e]; exact h
def minR (l : List Ex) : List Nat × Int := if fvE l ≠ 0 then ([], fvE l) else if 400 < (minQ l 0).length then ([], 3) else (minQ l 0, 0)
theorem minR_1 (h : ¬ fvE l = 0) : minR l = ([], fvE l) := if_pos h
theorem minR_2 (h : fvE l = 0) (h2 : 400 < (minQ l 0).length) : minR l = ([], 3) := by unfold minR; rw [if_neg (by simp [h]), if_pos h2]
theorem minR_3 (h : fvE l = 0) (h2 : ¬ 400 < (minQ l 0).length) : minR l = (minQ l 0, 0) := by unfold minR; rw [if_neg (by simp [h]), if_neg h2]
theorem minR_len (h6 : l.length ≤ 6) : (minR l).1.length ≤ 448 := by
  unfold minR
  have := minQ_len (d := 0) h6
  split
  · exact Nat.zero_le _
  · split
    · exact Nat.zero_le _
    · exact this
theorem minR_ne (h : q ∈ (minR l).1) : ¬ q % 65536 = 0 := by
  unfold minR at h
  split at h
  · cases h
  · split at h
    · cases h
    · exact minQ_ne h
theorem lsV_nil : lsV [] = .isl true [] 0 := rfl
attribute [local irreducible] minQ minR dsj
theorem minimal_ok (hl : LOk l) (hL : l.length = L) (h6 : L ≤ 6) : ACall Tryd.prog 13 [.isl zl (cR l) L] [] 0 (.tup [lsV (minR l).1, .val (.int .i64 (minR l).2)]) [] := by
  have h1 := PLift.up (fvalid_ok (zl := zl) hL (by omega) (hl.sh hL))
  have h2 := PLift.up (tab_ok (zl := zl) hl hL rfl)
  have h3 := PLift.up (minT_ok (l := l) (d := 0) hL h6 (fun i hi => by rw [bit_0] at hi; cases hi))
  rw [U_0n] at h3
  have hle := minQ_len (l := l) (d := 0) (by omega)
  have hl0 : lsV (minQ l 0) = .isl ((minQ l 0).length == 0) (cX (minQ l 0)) (minQ l 0).length := rfl
  obtain ⟨m, hm⟩ : ∃ m, (minQ l 0).length = m := ⟨_, rfl⟩
  rw [hm] at hl0 hle
  rw [hl0] at h3
  refine ACall.enter Tryd.func13 rfl (by simp [Tryd.ntmps13]) (by simp) ?_; simp only [entry, idx, Tryd.ntmps13, List.length, List.map_cons, List.map_nil, List.append_nil, List.cons_append, List.nil_append, Nat.reduceAdd, Nat.zero_add, List.length_cons, List.length_nil]
  repeat' (first | (refine AC_seq ?_) | (refine AC_region_lit ?_) | ((first | refine AL_go rfl (fun K hK => ?_) | refine AL_go0 (fun K hK => ?_)); (first | refine R_callG (f := 33) [] 0 false ?_ | refine R_callG (f := 39) [] 0 false ?_ | refine R_callG (f := 40) [] 0 false ?_); simp -dsimp (disch := first | exact vD | fail) only [push_cast, simprocAttr]; (repeat (refine aI ?_)); intro G hG; refine hG _ _ ?_; clear hG G; (first | refine ⟨_, _, h1.down, ?_⟩ | refine ⟨_, _, h2.down, ?_⟩ | refine ⟨_, _, h3.down, ?_⟩); simp -dsimp (disch := first | exact vD | fail) only [push_cast, simprocAttr]; (repeat (refine aI ?_)); (first | refine hK _ _ _ ?_ | refine hK _ _ ?_); clear hK K) | ((first | refine AL_go rfl (fun K hK => ?_) | refine AL_go0 (fun K hK => ?_)); (first | refine R_move _ ?_ | refine R_assign _ ?_ | refine Q_len _ _ ?_ | refine Q_lenStr _ _ ?_ | refine Q_eqAgg _ _ _ _ ?_ | refine Q_neqAgg _ _ _ _ ?_ | refine Q_neqSelf _ _ _ _ ?_ | refine Q_bin _ _ _ _ _ ?_); simp -dsimp (disch := first | exact vD | fail) only [push_cast, simprocAttr]; (repeat (refine aI ?_)); (first | refine hK _ _ _ ?_ | refine hK _ _ ?_); clear hK K) | ((first | refine AL_guard rfl rfl (fun K1 K2 h1 h2 => ?_) rfl | refine AC_cond_k (fun K1 K2 h1 h2 => ?_)); simp -dsimp (disch := first | exact vD | fail) only [push_cast, simprocAttr]; (first | (refine ⟨fun hc => ?_, fun hc => ?_⟩ <;> first | (exfalso; omega) | (exfalso; contradiction) | refine h1 ?_ | refine h2 ?_) | refine h1 ?_ | refine h2 ?_); all_goals clear h1 h2 K1 K2) | (refine AL_nil ?_) | (refine Thn_normal ?_) | (refine Thn_ret ?_) | (refine Thn_exit ?_) | (refine Blk_normal ?_) | (refine Blk_ret ?_) | (refine Blk_here ?_) | (refine Blk_other rfl ?_) | (refine AC_block ?_) | (refine AC_exit ?_) | (refine AC_skip ?_) | (refine AC_ret ?_))
  all_goals first
    | (rw [minR_1 (by assumption), lsV_nil]; (refine Ends.mk2 (by first | exact .inr rfl | exact .inl rfl) [] ?_; simp -dsimp (disch := first | exact vD | fail) only [push_cast, simprocAttr, Tryd.f13]; (repeat (refine aI ?_)); try (first | exact vI | fail)); done)
    | (rw [minR_2 (Decidable.not_not.1 (by assumption)) (by omega), lsV_nil]; (refine Ends.mk2 (by first | exact .inr rfl | exact .inl rfl) [] ?_; simp -dsimp (disch := first | exact vD | fail) only [push_cast, simprocAttr, Tryd.f13]; (repeat (refine aI ?_)); try (first | exact vI | fail)); done)
    | (rw [minR_3 (Decidable.not_not.1 (by assumption)) (by omega), hl0]; (refine Ends.mk2 (by first | exact .inr rfl | exact .inl rfl) [] ?_; simp -dsimp (disch := first | exact vD | fail) only [push_cast, simprocAttr, Tryd.f13]; (repeat (refine aI ?_)); try (first | exact vI | fail)); done)
    | trace_state
def splR (l : List Ex) : Nat × Nat × Int := if (minR l).2 ≠ 0 then (0, 0, (minR l).2) else if (dsj (minR l).1).2.2 = false then (0, 0, 13) else ((dsj (minR l).1).1, (dsj (minR l).1).2.1, 0)
def splV (r : Nat × Nat × Int) : AV := .tup [.val (.int .u16 (U r.1)), .val (.int .u16 (U r.2.1)), .val (.int .i64 r.2.2)]
theorem split_ok (hl : LOk l) (hL : l.length = L) (h6 : L ≤ 6) : ACall Tryd.prog 20 [.isl zl (cR l) L] [] 0 (splV (splR l)) [] := by
  have h1 := PLift.up (minimal_ok (zl := zl) hl hL h6)
  have h2 := PLift.up (dsj_ok (z := (minR l).1.length == 0) (qs := (minR l).1) rfl (by have := minR_len (l := l) (by omega); omega) (fun q hq => minR_ne hq))
  unfold splV splR
  unfold lsV at h1
  unfold dsV at h2
  generalize minR l = mr at *
  generalize dsj mr.1 = dr at *
  generalize hml : mr.1.length = ml at *
  refine ACall.enter Tryd.func20 rfl (by simp [Tryd.ntmps20]) (by simp) ?_; simp only [entry, idx, Tryd.ntmps20, List.length, List.map_cons, List.map_nil, List.append_nil, List.cons_append, List.nil_append, Nat.reduceAdd, Nat.zero_add, List.length_cons, List.length_nil]
  repeat' (first | (refine AC_seq ?_) | (refine AC_region_lit ?_) | ((first | refine AL_go rfl (fun K hK => ?_) | refine AL_go0 (fun K hK => ?_)); (first | refine R_callG (f := 13) [] 0 false ?_ | refine R_callG (f := 49) [] 0 false ?_); simp -dsimp (disch := first | exact vD | fail) only [push_cast, simprocAttr]; (repeat (refine aI ?_)); intro G hG; refine hG _ _ ?_; clear hG G; (first | refine ⟨_, _, h1.down, ?_⟩ | refine ⟨_, _, h2.down, ?_⟩); simp -dsimp (disch := first | exact vD | fail) only [push_cast, simprocAttr]; (repeat (refine aI ?_)); (first | refine hK _ _ _ ?_ | refine hK _ _ ?_); clear hK K) | ((first | refine AL_go rfl (fun K hK => ?_) | refine AL_go0 (fun K hK => ?_)); (first | refine R_move _ ?_ | refine R_assign _ ?_ | refine Q_not _ _ ?_ | refine Q_neg _ _ ?_ | refine Q_extract _ _ ?_ | refine Q_eqAgg _ _ _ _ ?_ | refine Q_neqAgg _ _ _ _ ?_ | refine Q_neqSelf _ _ _ _ ?_ | refine Q_bin _ _ _ _ _ ?_); simp -dsimp (disch := first | exact vD | fail) only [push_cast, simprocAttr]; (repeat (refine aI ?_)); (first | refine hK _ _ _ ?_ | refine hK _ _ ?_); clear hK K) | ((first | refine AL_guard rfl rfl (fun K1 K2 h1 h2 => ?_) rfl | refine AC_cond_k (fun K1 K2 h1 h2 => ?_)); simp -dsimp (disch := first | exact vD | fail) only [push_cast, simprocAttr]; (first | (refine ⟨fun hc => ?_, fun hc => ?_⟩ <;> first | (exfalso; omega) | (exfalso; contradiction) | refine h1 ?_ | refine h2 ?_) | refine h1 ?_ | refine h2 ?_); all_goals clear h1 h2 K1 K2) | (refine AL_nil ?_) | (refine Thn_normal ?_) | (refine Thn_ret ?_) | (refine Thn_exit ?_) | (refine Blk_normal ?_) | (refine Blk_ret ?_) | (refine Blk_here ?_) | (refine Blk_other rfl ?_) | (refine AC_block ?_) | (refine AC_exit ?_) | (refine AC_skip ?_) | (refine AC_ret ?_))
  all_goals first
    | (rw [if_pos (by assumption)]; (refine Ends.mk2 (by first | exact .inr rfl | exact .inl rfl) [] ?_; simp -dsimp (disch := first | exact vD | fail) only [push_cast, simprocAttr, Tryd.f20, U_0n]; (repeat (refine aI ?_)); try (first | exact vI | fail)); done)
    | (rw [if_neg (by assumption), if_pos (by simp_all)]; (refine Ends.mk2 (by first | exact .inr rfl | exact .inl rfl) [] ?_; simp -dsimp (disch := first | exact vD | fail) only [push_cast, simprocAttr, Tryd.f20, U_0n]; (repeat (refine aI ?_)); try (first | exact vI | fail)); done)
    | (rw [if_neg (by assumption), if_neg (by simp_all)]; (refine Ends.mk2 (by first | exact .inr rfl | exact .inl rfl) [] ?_; simp -dsimp (disch := first | exact vD | fail) only [push_cast, simprocAttr, Tryd.f20]; (repeat (refine aI ?_)); try (first | exact vI | fail)); done)
    | trace_state
end Go.Proofs.YtgnkcohlfdddnaaDoor
