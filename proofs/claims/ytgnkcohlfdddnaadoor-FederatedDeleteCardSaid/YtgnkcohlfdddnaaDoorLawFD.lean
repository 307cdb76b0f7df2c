/- Federated: the law of Delete. No condition. -/
import Derived.Test.YtgnkcohlfdddnaaDoorLawFB
import Derived.Test.YtgnkcohlfdddnaaDoorFe30
import Derived.Test.YtgnkcohlfdddnaaDoorFe19
set_option linter.unusedVariables false
set_option linter.unusedSectionVars false
set_option linter.unusedSimpArgs false
set_option maxHeartbeats 4000000
set_option maxRecDepth 20000
namespace Go.Proofs.YtgnkcohlfdddnaaDoor
open Go Go.Sy Go.Bp
attribute [local irreducible] AO AL AC OpT ACall Ends DGo DRun Thn Blk Nxt
variable {z zl : Bool} {n i j m q s t k D : Nat} {e : Int} {d : List Sli} {l A B : List Ex}
theorem law7a (hM : ACall Tryd.prog 12 [.isl z (cR d) D] [] 0 (.isl false (cR l) n) []) (he : ¬ e = 0)
    (h1 : ACall Tryd.prog 25 [.isl false (cR l) n, .val (.int .u16 (U s))] [] 0 (.tup [.isl true [] 0, .val (.int .i64 e)]) [])
    (h2 : ACall Tryd.prog 26 [.isl false (cR l) n, .val (.int .u16 (U s))] [] 0 (.tup [.isl true [] 0, .val (.int .i64 e)]) []) :
    ACall Tryd.prog 7 [.isl z (cR d) D, .val (.int .u16 (U s)), .val (.int .u16 (U q))] [] 0 (.val (.bool true)) [] := by
  have h3 := samef_ok (zl := true) (zr := true) (l := []) (r := []) (n := 0) rfl rfl (by decide) (by simp) (by simp) (fun i hi => absurd hi (by omega))
  rw [cR_nil] at h3
  have hM := PLift.up hM; have h1 := PLift.up h1; have h2 := PLift.up h2; have h3 := PLift.up h3
  refine ACall.enter Tryd.func7 rfl (by simp [Tryd.ntmps7]) (by simp) ?_; simp only [entry, idx, Tryd.ntmps7, List.length, List.map_cons, List.map_nil, List.append_nil, List.cons_append, List.nil_append, Nat.reduceAdd, Nat.zero_add, List.length_cons, List.length_nil]
  repeat' (first | (refine AC_seq ?_) | (refine AC_region_lit ?_) | ((first | refine AL_go rfl (fun K hK => ?_) | refine AL_go0 (fun K hK => ?_)); (first | refine R_callG (f := 11) [] 0 false ?_ | refine R_callG (f := 12) [] 0 false ?_ | refine R_callG (f := 25) [] 0 false ?_ | refine R_callG (f := 26) [] 0 false ?_ | refine R_callG (f := 27) [] 0 false ?_); simp -dsimp (disch := first | exact vD | fail) only [push_cast, simprocAttr, he]; (repeat (refine aI ?_)); intro G hG; refine hG _ _ ?_; clear hG G; (first | refine ⟨_, _, awake_ok, ?_⟩ | refine ⟨_, _, hM.down, ?_⟩ | refine ⟨_, _, h1.down, ?_⟩ | refine ⟨_, _, h2.down, ?_⟩ | refine ⟨_, _, h3.down, ?_⟩); simp -dsimp (disch := first | exact vD | fail) only [push_cast, simprocAttr, he]; (repeat (refine aI ?_)); (first | refine hK _ _ _ ?_ | refine hK _ _ ?_); clear hK K) | ((first | refine AL_go rfl (fun K hK => ?_) | refine AL_go0 (fun K hK => ?_)); (first | refine R_move _ ?_ | refine R_assign _ ?_ | refine Q_load _ _ ?_ | refine Q_loadAgg _ _ ?_ | refine Q_indexAddr _ _ _ ?_ | refine Q_indexArr _ _ _ ?_ | refine Q_len _ _ ?_ | refine Q_lenStr _ _ ?_ | refine Q_pick _ _ _ ?_ | refine Q_not _ _ ?_ | refine Q_neg _ _ ?_ | refine Q_extract _ _ ?_ | refine Q_store _ _ _ ?_ | refine Q_buildSlice _ _ _ ?_ | refine Q_eqAgg _ _ _ _ ?_ | refine Q_neqAgg _ _ _ _ ?_ | refine Q_neqSelf _ _ _ _ ?_ | refine Q_bin _ _ _ _ _ ?_ | refine Q_appendNil _ _ _ ?_); simp -dsimp (disch := first | exact vD | fail) only [push_cast, simprocAttr, he]; (repeat (refine aI ?_)); (first | refine hK _ _ _ ?_ | refine hK _ _ ?_); clear hK K) | ((first | refine AL_go rfl (fun K hK => ?_) | refine AL_go0 (fun K hK => ?_)); (first | refine Q_append _ _ _ ?_); simp -dsimp (disch := first | exact vD | fail) only [push_cast, simprocAttr, he]; (repeat (refine aI ?_)); (first | refine hK _ _ _ ?_ | refine hK _ _ ?_); clear hK K) | ((first | refine AL_go rfl (fun K hK => ?_) | refine AL_go0 (fun K hK => ?_)); (first | refine Q_append00 _ _ _ ?_); simp -dsimp (disch := first | exact vD | fail) only [push_cast, simprocAttr, he]; (repeat (refine aI ?_)); (first | refine hK _ _ _ ?_ | refine hK _ _ ?_); clear hK K) | ((first | refine AL_go rfl (fun K hK => ?_) | refine AL_go0 (fun K hK => ?_)); (first | refine Q_appendIn _ _ _ ?_); simp -dsimp (disch := first | exact vD | fail) only [push_cast, simprocAttr, he]; (repeat (refine aI ?_)); (first | refine hK _ _ _ ?_ | refine hK _ _ ?_); clear hK K) | ((first | refine AL_guard rfl rfl (fun K1 K2 h1 h2 => ?_) rfl | refine AC_cond_k (fun K1 K2 h1 h2 => ?_)); simp -dsimp (disch := first | exact vD | fail) only [push_cast, simprocAttr, he]; (first | (refine ⟨fun hc => ?_, fun hc => ?_⟩ <;> first | (exfalso; omega) | (exfalso; contradiction) | refine h1 ?_ | refine h2 ?_) | refine h1 ?_ | refine h2 ?_); all_goals clear h1 h2 K1 K2) | (refine AL_nil ?_) | (refine Thn_normal ?_) | (refine Thn_ret ?_) | (refine Thn_exit ?_) | (refine Blk_normal ?_) | (refine Blk_ret ?_) | (refine Blk_here ?_) | (refine Blk_other rfl ?_) | (refine AC_block ?_) | (refine AC_exit ?_) | (refine AC_skip ?_) | (refine AC_ret ?_))
  all_goals first
    | ((refine Ends.mk2 (by first | exact .inr rfl | exact .inl rfl) [] ?_; simp -dsimp (disch := first | exact vD | fail) only [push_cast, simprocAttr, Tryd.f7, he]; (repeat (refine aI ?_)); try (first | exact vI | fail)); done)
    | trace_state
def cE : AV := .isl (conE true).nz (cR (conE true).nodes) (conE true).nodes.length
theorem cE_def : Cells.cells (conE true) = [cE, .val (.int .i64 0)] := rfl
theorem cE_sc : AV.scalar cE = true := rfl
attribute [local irreducible] cE
theorem madeN : ACall Tryd.prog 12 [.isl true [] 0] [] 0 (.isl false [cE, .val (.int .i64 0)] 1) [] := by
  have h := made_ok (z := true) (l := []) (L := 0) rfl (by decide) (fun i hi => absurd hi (by omega))
  rw [cR_nil] at h
  have e : cR (made []) = [cE, .val (.int .i64 0)] := by
    have : made [] = [conE true] := rfl
    rw [this]; unfold cR; rw [List.flatMap_cons, cE_def]; rfl
  rw [e] at h; exact h
theorem one_spl (hk : k < l.length) (h : ¬ k = i) : spl (cR (oneA l i k)) (k * 2) [cE, .val (.int .i64 0)] = cR (oneA l i (k + 1)) := by
  rw [← cE_def, ← oneA_s hk h]; exact cR_splR1
theorem tk_one (h : l.length = n) : (oneA l i k).take n = oneA l i k := List.take_of_length_le (by rw [oneA_len, h]; exact Nat.le_refl _)
def d7O (l : List Ex) (n t s : Nat) (i : {i : Nat // i ≤ n}) : St :=
  ⟨114, 0, [(1,.val (.int .u16 (U s))), (7,.isl false (cR l) n), (12,.val (.int .u16 (U t))), (13,.val (.bool (wantA l t s n))), (14,.val (.int .i64 0)), (15,.val (.bool (wantA l t s i.val))), (73,.val (.int .i64 n)), (74,.val (.int .i64 i.val))], []⟩
def d7I (l : List Ex) (n t s i : Nat) (k : {k : Nat // k ≤ n}) : St :=
  ⟨114, 0, [(1,.val (.int .u16 (U s))), (7,.isl false (cR l) n), (12,.val (.int .u16 (U t))), (13,.val (.bool (wantA l t s n))), (14,.val (.int .i64 0)), (15,.val (.bool (wantA l t s i))), (16,.val (.int .i64 i)), (17,.sl 0 0 n 2), (73,.val (.int .i64 n)), (74,.val (.int .i64 i)), (84,.val (.int .i64 n)), (85,.val (.int .i64 k.val))], [(0, some (.cells (cR (oneA l i k.val)) 50))]⟩
theorem wantA_0d {t : Nat} : wantA l t s 0 = decide (¬ t % 65536 = 0) := by rw [wantA_0]; simp
theorem law7b (hF : FOk l n) (hM : ACall Tryd.prog 12 [.isl z (cR d) D] [] 0 (.isl false (cR l) n) []) (hA : A.length = n) (hB : B.length = n) (hAs : ∀ y ∈ A, Short y) (hBs : ∀ y ∈ B, Short y) (hS : ∀ i, i < n → sameX (A.getD i default) (B.getD i default) = true)
    (h1 : ACall Tryd.prog 25 [.isl false (cR l) n, .val (.int .u16 (U s))] [] 0 (.tup [.isl false (cR A) n, .val (.int .i64 0)]) [])
    (h2 : ACall Tryd.prog 26 [.isl false (cR l) n, .val (.int .u16 (U s))] [] 0 (.tup [.isl false (cR B) n, .val (.int .i64 0)]) [])
    (ht : sdif (sand q (2 ^ n - 1)) s = t) (htn : ∀ i, bit t i = true → i < n) (hsn : ∀ i, bit s i = true → i < n)
    (h4 : ACall Tryd.prog 28 [.isl false (cR A) n, .val (.int .u16 (U t))] [] 0 (.tup [.val (.bool (wantA l t s n)), .val (.int .i64 0)]) []) :
    ACall Tryd.prog 7 [.isl z (cR d) D, .val (.int .u16 (U s)), .val (.int .u16 (U q))] [] 0 (.val (.bool true)) [] := by
  have hn := hF.le
  have hl := hF.len
  have h3 := samef_ok (zl := false) (zr := false) hA hB (by omega) hAs hBs hS
  have hst := sor_in htn hsn
  have hone := fun (i : Nat) (hi : i < n) (hb : bit t i = true) => PLift.up (by
    have h := isq_ok (zl := false) (s := sor t s) (one_LOk (i := i) (k := n) hF.ok) (L := n) (by rw [oneA_len]; exact hl)
    have e := one_isQ (l := l) (i := i) (s := sor t s) (by omega) (fun j hj => by rw [hl]; exact hst j hj) (by rw [bit_sor, hb]; rfl)
    rw [hl] at e
    rw [e] at h; exact h)
  have hM := PLift.up hM; have h1 := PLift.up h1; have h2 := PLift.up h2; have h3 := PLift.up h3; have h4 := PLift.up h4
  have hw := dmy_def; have hb := dmy_def; have hx := dmy_def; have hy := dmy_def; have hz := dmy_def
  have htk := fun (i k : Nat) => tk_one (l := l) (i := i) (k := k) hl
  have hol := fun (i k : Nat) => oneA_len (l := l) (i := i) (k := k)
  rw [hl] at hol
  refine ACall.enter Tryd.func7 rfl (by simp [Tryd.ntmps7]) (by simp) ?_; simp only [entry, idx, Tryd.ntmps7, List.length, List.map_cons, List.map_nil, List.append_nil, List.cons_append, List.nil_append, Nat.reduceAdd, Nat.zero_add, List.length_cons, List.length_nil]
  repeat' (first | (refine AC_loop_id ?_; refine AC_loop' [1] ([1].length) (d7I l n t s i) (fun k => n - k.val) (⟨0, by omega⟩) rfl (by unfold d7I; (try simp only [List.cons_append, List.nil_append]); refine Sub.mk2 ?_; (simp -dsimp (disch := first | exact vD | fail) only [push_cast, simprocAttr, ht, hw, hb, hx, hy, wantA_0d, hz, htk, hol, cE_sc, oneA_0, oneA_i, beq_self_eq_true]); (repeat (refine aI ?_)); (first | done | (first | exact vI | fail)); done) ?_; (rintro ⟨k, hk⟩; rcases Nat.lt_or_eq_of_le hk with hkl | hkl <;> first | (have ek : n = k := hkl.symm; subst ek; (simp -dsimp (disch := first | exact vD | fail) only [push_cast, simprocAttr, d7I])) | (rcases Decidable.em (k = i) with hy | hy <;> first | (have hz := one_spl (l := l) (i := i) (by omega) hy; (simp -dsimp (disch := first | exact vD | fail) only [push_cast, simprocAttr, d7I])) | (simp -dsimp (disch := first | exact vD | fail) only [push_cast, simprocAttr, d7I])))) | (refine Nxt_id ?_; refine Nxt.mk [0] (⟨k + 1, by omega⟩) rfl (by unfold d7I; (try simp only [List.cons_append, List.nil_append]); refine Sub.mk2 ?_; (simp -dsimp (disch := first | exact vD | fail) only [push_cast, simprocAttr, ht, hw, hb, hx, hy, wantA_0d, hz, htk, hol, cE_sc, oneA_0, oneA_i, beq_self_eq_true]); (repeat (refine aI ?_)); (first | done | (first | exact vI | fail)); done) (by first | omega | (simp; done) | (simp; omega))) | (refine AC_loop_id ?_; refine AC_loop' [] ([].length) (d7O l n t s) (fun i => n - i.val) (⟨0, by omega⟩) rfl (by unfold d7O; (try simp only [List.cons_append, List.nil_append]); refine Sub.mk2 ?_; (simp -dsimp (disch := first | exact vD | fail) only [push_cast, simprocAttr, ht, hw, hb, hx, hy, wantA_0d, hz, htk, hol, cE_sc, oneA_0, oneA_i, beq_self_eq_true]); (repeat (refine aI ?_)); (first | done | (first | exact vI | fail)); done) ?_; (rintro ⟨i, hi⟩; rcases Nat.lt_or_eq_of_le hi with hil | hil <;> first | (have ei : n = i := hil.symm; subst ei; (simp -dsimp (disch := first | exact vD | fail) only [push_cast, simprocAttr, d7O])) | (rcases Bool.eq_false_or_eq_true (bit t i) with hb | hb <;> rcases Bool.eq_false_or_eq_true (wantA l t s i) with hw | hw <;> ((first | (have hx : wantA l t s (i + 1) = true := by rw [wantA_f hb, hw]) | (have hx : wantA l t s (i + 1) = false := by rw [wantA_f hb, hw]) | (have hx : wantA l t s (i + 1) = false := by rw [wantA_t hb, hw]; rfl) | (have hx : wantA l t s (i + 1) = satP l (sor t s) i := by rw [wantA_t hb, hw]; rfl)); (simp -dsimp (disch := first | exact vD | fail) only [push_cast, simprocAttr, d7O]))))) | (refine Nxt_id ?_; refine Nxt.mk [] (⟨i + 1, by omega⟩) rfl (by unfold d7O; (try simp only [List.cons_append, List.nil_append]); refine Sub.mk2 ?_; (simp -dsimp (disch := first | exact vD | fail) only [push_cast, simprocAttr, ht, hw, hb, hx, hy, wantA_0d, hz, htk, hol, cE_sc, oneA_0, oneA_i, beq_self_eq_true]); (repeat (refine aI ?_)); (first | done | (first | exact vI | fail)); done) (by first | omega | (simp; done) | (simp; omega))) | (refine AC_seq ?_) | (refine AC_region_lit ?_) | ((first | refine AL_go rfl (fun K hK => ?_) | refine AL_go0 (fun K hK => ?_)); (first | refine R_callG (f := 11) [] 0 false ?_ | refine R_callG (f := 25) [] 0 false ?_ | refine R_callG (f := 26) [] 0 false ?_ | refine R_callG (f := 27) [] 0 false ?_ | refine R_callG (f := 28) [] 0 false ?_ | refine R_callG (f := 29) [] 0 false ?_ | refine R_callG (f := 30) [] 0 true ?_); simp -dsimp (disch := first | exact vD | fail) only [push_cast, simprocAttr, ht, hw, hb, hx, hy, wantA_0d, hz, htk, hol, cE_sc, oneA_0, oneA_i, beq_self_eq_true]; (repeat (refine aI ?_)); intro G hG; refine hG _ _ ?_; clear hG G; (first | refine ⟨_, _, awake_ok, ?_⟩ | refine ⟨_, _, h1.down, ?_⟩ | refine ⟨_, _, h2.down, ?_⟩ | refine ⟨_, _, h3.down, ?_⟩ | refine ⟨_, _, h4.down, ?_⟩ | refine ⟨_, _, hasU_ok (s := t) (n := i) (by omega), ?_⟩ | refine ⟨_, _, (hone i (by omega) hb).down, ?_⟩); simp -dsimp (disch := first | exact vD | fail) only [push_cast, simprocAttr, ht, hw, hb, hx, hy, wantA_0d, hz, htk, hol, cE_sc, oneA_0, oneA_i, beq_self_eq_true]; (repeat (refine aI ?_)); (first | refine hK _ _ _ ?_ | refine hK _ _ ?_); clear hK K) | ((first | refine AL_go rfl (fun K hK => ?_) | refine AL_go0 (fun K hK => ?_)); (first | (refine R_callG (f := 12) [] 0 false ?_; simp -dsimp (disch := first | exact vD | fail) only [push_cast, simprocAttr, ht, hw, hb, hx, hy, wantA_0d, hz, htk, hol, cE_sc, oneA_0, oneA_i, beq_self_eq_true]; (repeat (refine aI ?_)); intro G hG; refine hG _ _ ?_; clear hG G; refine ⟨_, _, hM.down, ?_⟩; simp -dsimp (disch := first | exact vD | fail) only [push_cast, simprocAttr, ht, hw, hb, hx, hy, wantA_0d, hz, htk, hol, cE_sc, oneA_0, oneA_i, beq_self_eq_true]; (repeat (refine aI ?_)); (first | refine hK _ _ _ ?_ | refine hK _ _ ?_); clear hK K) | (refine R_callG (f := 12) [] 0 false ?_; simp -dsimp (disch := first | exact vD | fail) only [push_cast, simprocAttr, ht, hw, hb, hx, hy, wantA_0d, hz, htk, hol, cE_sc, oneA_0, oneA_i, beq_self_eq_true]; (repeat (refine aI ?_)); intro G hG; refine hG _ _ ?_; clear hG G; refine ⟨_, _, madeN, ?_⟩; simp -dsimp (disch := first | exact vD | fail) only [push_cast, simprocAttr, ht, hw, hb, hx, hy, wantA_0d, hz, htk, hol, cE_sc, oneA_0, oneA_i, beq_self_eq_true]; (repeat (refine aI ?_)); (first | refine hK _ _ _ ?_ | refine hK _ _ ?_); clear hK K))) | ((first | refine AL_go rfl (fun K hK => ?_) | refine AL_go0 (fun K hK => ?_)); (first | refine R_move _ ?_ | refine R_assign _ ?_ | refine Q_load _ _ ?_ | refine Q_loadAgg _ _ ?_ | refine Q_indexAddr _ _ _ ?_ | refine Q_indexArr _ _ _ ?_ | refine Q_len _ _ ?_ | refine Q_lenStr _ _ ?_ | refine Q_pick _ _ _ ?_ | refine Q_not _ _ ?_ | refine Q_neg _ _ ?_ | refine Q_extract _ _ ?_ | refine Q_store _ _ _ ?_ | refine Q_buildSlice _ _ _ ?_ | refine Q_eqAgg _ _ _ _ ?_ | refine Q_neqAgg _ _ _ _ ?_ | refine Q_neqSelf _ _ _ _ ?_ | refine Q_bin _ _ _ _ _ ?_ | refine Q_appendNil _ _ _ ?_); simp -dsimp (disch := first | exact vD | fail) only [push_cast, simprocAttr, ht, hw, hb, hx, hy, wantA_0d, hz, htk, hol, cE_sc, oneA_0, oneA_i, beq_self_eq_true]; (repeat (refine aI ?_)); (first | refine hK _ _ _ ?_ | refine hK _ _ ?_); clear hK K) | ((first | refine AL_go rfl (fun K hK => ?_) | refine AL_go0 (fun K hK => ?_)); (first | refine Q_append _ _ _ ?_); simp -dsimp (disch := first | exact vD | fail) only [push_cast, simprocAttr, ht, hw, hb, hx, hy, wantA_0d, hz, htk, hol, cE_sc, oneA_0, oneA_i, beq_self_eq_true]; (repeat (refine aI ?_)); (first | refine hK _ _ _ ?_ | refine hK _ _ ?_); clear hK K) | ((first | refine AL_go rfl (fun K hK => ?_) | refine AL_go0 (fun K hK => ?_)); (first | refine Q_append00 _ _ _ ?_); simp -dsimp (disch := first | exact vD | fail) only [push_cast, simprocAttr, ht, hw, hb, hx, hy, wantA_0d, hz, htk, hol, cE_sc, oneA_0, oneA_i, beq_self_eq_true]; (repeat (refine aI ?_)); (first | refine hK _ _ _ ?_ | refine hK _ _ ?_); clear hK K) | ((first | refine AL_go rfl (fun K hK => ?_) | refine AL_go0 (fun K hK => ?_)); (first | refine Q_appendIn _ _ _ ?_); simp -dsimp (disch := first | exact vD | fail) only [push_cast, simprocAttr, ht, hw, hb, hx, hy, wantA_0d, hz, htk, hol, cE_sc, oneA_0, oneA_i, beq_self_eq_true]; (repeat (refine aI ?_)); (first | refine hK _ _ _ ?_ | refine hK _ _ ?_); clear hK K) | ((first | refine AL_guard rfl rfl (fun K1 K2 h1 h2 => ?_) rfl | refine AC_cond_k (fun K1 K2 h1 h2 => ?_)); simp -dsimp (disch := first | exact vD | fail) only [push_cast, simprocAttr, ht, hw, hb, hx, hy, wantA_0d, hz, htk, hol, cE_sc, oneA_0, oneA_i, beq_self_eq_true]; (first | (refine ⟨fun hc => ?_, fun hc => ?_⟩ <;> first | (exfalso; omega) | (exfalso; contradiction) | refine h1 ?_ | refine h2 ?_) | refine h1 ?_ | refine h2 ?_); all_goals clear h1 h2 K1 K2) | (refine AL_nil ?_) | (refine Thn_normal ?_) | (refine Thn_ret ?_) | (refine Thn_exit ?_) | (refine Blk_normal ?_) | (refine Blk_ret ?_) | (refine Blk_here ?_) | (refine Blk_other rfl ?_) | (refine AC_block ?_) | (refine AC_exit ?_) | (refine AC_skip ?_) | (refine AC_ret ?_))
  all_goals first
    | ((refine Ends.mk2 (by first | exact .inr rfl | exact .inl rfl) [] ?_; simp -dsimp (disch := first | exact vD | fail) only [push_cast, simprocAttr, Tryd.f7]; (repeat (refine aI ?_)); try (first | exact vI | fail)); done)
    | trace_state
theorem law7 (h : Slis d D) : ACall Tryd.prog 7 [.isl z (cR d) D, .val (.int .u16 (U s)), .val (.int .u16 (U q))] [] 0 (.val (.bool true)) [] := by
  obtain ⟨l, n, hF, hM⟩ := made_M (z := z) h
  have hn := hF.le; have hp := hF.pos
  have h1 := del_ok (zl := false) (d := s) hF.len hp (by omega) (fun i hi => ⟨(hF.ok.ok i (by rw [hF.len]; exact hi)).2.1, hF.fl i hi⟩)
  have h2 := rdel_ok (zl := false) (d := s) hF.len hp (by omega) (fun i hi => (hF.ok.ok i (by rw [hF.len]; exact hi)).2.1)
  unfold delV at h1 h2
  rcases Decidable.em (chE l s = 0) with he | he
  · have hs : ∀ i, bit s i = true → i < n := fun i hi => by rw [← hF.len]; exact chE_sub he (by rw [hF.len]; omega) i hi
    rw [hF.del hs] at h1 h2
    dsimp only at h1 h2
    rw [delL_len, beq_s hp] at h1 h2
    have ht : ∀ i, bit (sdif (sand q (2 ^ n - 1)) s) i = true → i < n := fun i hi => by
      rw [bit_sdif, Bool.and_eq_true] at hi
      exact sand_n hn i hi.1
    have hb : ∀ i, i < n → bit s i = false → bigX (l.getD i default) = false := fun i hi _ => hF.big i hi
    have hA := del_LOk mkok_P hF.ok hF.len hb
    have hB := del_LOk mkok_R hF.ok hF.len hb
    have hw := hF.del_want mkok_P ht hs (fun i hi => by
      rw [bit_sdif, Bool.and_eq_true] at hi
      simpa using hi.2)
    have h4 := quorum_ok (zl := false) (s := sdif (sand q (2 ^ n - 1)) s) hA delL_len
    rw [chE_in (hF.del_fv mkok_P) delL_len (by omega) ht, if_pos rfl, hw] at h4
    have hsh : ∀ {A : List Ex}, LOk A → ∀ y ∈ A, Short y := fun {A} hA y hy => by
      obtain ⟨i, hi, rfl⟩ := List.getElem_of_mem hy
      have := (hA.ok i hi).2.1
      rw [List.getD_eq_getElem?_getD, List.getElem?_eq_getElem hi, Option.getD_some] at this
      exact this
    exact law7b hF hM delL_len delL_len (hsh hA) (hsh hB) (fun i hi => del_same hi) h1 h2 rfl ht hs h4
  · rw [delR_1 he] at h1 h2
    exact law7a hM he h1 h2
end Go.Proofs.YtgnkcohlfdddnaaDoor
