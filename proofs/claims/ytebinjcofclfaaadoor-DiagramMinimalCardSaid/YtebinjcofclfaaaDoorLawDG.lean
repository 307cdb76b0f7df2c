/- Diagrams: the law of Minimal. No condition. -/
import Derived.Test.YtebinjcofclfaaaDoorLawD0
import Derived.Test.YtebinjcofclfaaaDoorDg9
import Derived.Test.YtebinjcofclfaaaDoorDi12
import Derived.Test.YtebinjcofclfaaaDoorDi27
set_option linter.unusedVariables false
set_option linter.unusedSectionVars false
set_option linter.unusedSimpArgs false
set_option maxHeartbeats 4000000
set_option maxRecDepth 20000
namespace Go.Proofs.YtebinjcofclfaaaDoor
open Go Go.Sy Go.Bp Go.Dg
attribute [local irreducible] AO AL AC OpT ACall Ends DGo DRun Thn Blk Nxt
variable {n N M T L k i m r a b j w u v s q x y d : Nat} {z z' up up' : Bool} {B B' : List Nat} {F : List Fo} {p f g : Nat → Bool} {CL C2 : List Nat}
theorem lawMinimal (h : DrOk N B L) : ACall Tryd.prog 7 [.agg (drC N z B L up)] [] 0 (.val (.bool true)) [] := by
  by_cases h16 : L ≤ 16
  · obtain ⟨F, r, hD, hM⟩ := made_M (z := z) (up := up) h h16
    have hn6 : N % 7 ≤ 6 := by omega
    generalize N % 7 = n at hD hM hn6
    obtain ⟨M, hMe⟩ : ∃ M, F.length = M := ⟨_, rfl⟩
    rw [hMe] at hM
    generalize hzb : (M == 0) = zb at hM
    have hf := hD.few; have hl := hD.lt
    have hmin := minOk (n := n) (p := fun t => valN F t r) hn6
    have hoM := oM_mB (n := n) (p := fun t => valN F t r) hn6
    obtain ⟨ms, hms⟩ : ∃ ms, mB (fun t => valN F t r) (subs (fullS n)) (subs (fullS n)).length = ms := ⟨_, rfl⟩
    rw [hms] at hmin hoM
    have h1 := minimal_w (z := zb) hD hMe hn6 hms
    have h2 := rminimal_w (z := zb) hn6 hD.bnd hD.v16 hMe (by omega) (show r < 2 ^ 50 by omega) rfl
    unfold oL at h2
    rw [hoM] at h2
    have hmm := min_mono hn6 hmin
    have hml : ms.length ≤ 64 := by
      have h1 := mBl_le (p := fun t => valN F t r) (xs := subs (fullS n)) (j := (subs (fullS n)).length)
      have h2 := subs_full_len n hn6
      have h3 : 2 ^ n ≤ 2 ^ 6 := Nat.pow_le_pow_right (by omega) hn6
      unfold mBl at h1
      rw [hms] at h1; omega
    have hmi := mono_iff hD.good hD.lt (hD.eq (tab := fun t => valN F t r) fun _ _ => rfl) (fun _ _ => rfl)
    obtain ⟨⟨W, w⟩, e1⟩ : ∃ R, fromT n (hasA ms) = R := ⟨_, rfl⟩
    have hff := ff_ok (z := (ms.length == 0)) (n := n) (xs := ms) (M := ms.length) (by omega) rfl (by omega) (min_famE hn6 hmin) (min_sup hn6 hmin)
    rw [e1] at hff
    obtain ⟨K, hK⟩ : ∃ K, W.length = K := ⟨_, rfl⟩
    have hW := DOk.of e1 (by omega)
    have hWf := hW.few
    have heq := equal_ok (z := (K == 0)) (z' := zb) (p := (n : Int)) (p' := (n : Int)) (q := (w : Int)) (q' := (r : Int)) (L := W.map fk) (L' := F.map fk) (by rw [List.length_map]; omega)
    obtain ⟨b1, hb1⟩ : ∃ b1, decide ((n : Int) = n ∧ (w : Int) = r ∧ W.map fk = F.map fk) = b1 := ⟨_, rfl⟩
    have hbm : b1 = true ↔ Mono n (fun t => valN F t r) := by
      rw [← hb1, decide_eq_true_eq, hmm]
      have inj : W.map fk = F.map fk ↔ W = F := ⟨fun e => by
        refine List.map_inj_right (f := fk) (fun x y hxy => ?_) |>.1 e
        cases x; cases y
        simp only [fk, Fk.mk.injEq] at hxy
        simp only [Fo.mk.injEq]; omega, fun e => by rw [e]⟩
      rw [inj]
      constructor
      · rintro ⟨_, hw, hWF⟩ t ht
        have := from_fn e1 t ht
        rw [hWF, show w = r by omega] at this; exact this.symm
      · intro ht
        have := hD.eq (tab := hasA ms) fun t htt => (ht t htt).symm
        rw [e1] at this
        cases this
        exact ⟨rfl, rfl, rfl⟩
    rw [hb1] at heq
    have h3 := mono_w (z := zb) (b := b1) hD hMe (hbm.trans hmi)
    have h4 := rmono_w (z := zb) (b1 := b1) hn6 hD.bnd hD.v16 hMe (by omega) (show r < 2 ^ 50 by omega) rfl hbm
    rw [← rgV_dg, ← rgV_dg] at heq
    unfold dgV at hff heq
    dsimp only at hff
    rw [hK] at hff heq
    rw [hMe] at heq
    obtain ⟨Q, hQ⟩ : ∃ Q, ms.length = Q := ⟨_, rfl⟩
    rw [hQ] at h1 h2 hff hml
    generalize (Q == 0) = zq at h1 h2 hff
    generalize (K == 0) = zk at hff heq
    have hsm := PLift.up (same7_ok (zl := zq) (zr := zq) hQ (by omega))
    have hM := PLift.up hM; have h1 := PLift.up h1; have h2 := PLift.up h2; have h3 := PLift.up h3; have h4 := PLift.up h4; have hff := PLift.up hff; have heq := PLift.up heq
    clear hD hmin hmm hmi hbm e1 hW h hb1 hoM hms
    unfold drC apD at *
    cases b1
    all_goals (refine ACall.enter Tryd.func7 rfl (by simp [Tryd.ntmps7]) (by simp) ?_; simp only [entry, idx, Tryd.ntmps7, List.length, List.map_cons, List.map_nil, List.append_nil, List.cons_append, List.nil_append, Nat.reduceAdd, Nat.zero_add, List.length_cons, List.length_nil])
    all_goals repeat' (first | apply AC_seq | apply AC_region_lit | ((first | refine AL_go rfl (fun K hK => ?_) | refine AL_go0 (fun K hK => ?_)); (first | refine R_callG (f := 12) [] 0 false ?_ | refine R_callG (f := 13) [] 0 false ?_ | refine R_callG (f := 28) [] 0 false ?_ | refine R_callG (f := 31) [] 0 false ?_ | refine R_callG (f := 29) [] 0 false ?_ | refine R_callG (f := 32) [] 0 false ?_ | refine R_callG (f := 21) [] 0 false ?_ | refine R_callG (f := 24) [] 0 false ?_ | refine R_callG (f := 30) [] 0 false ?_); simp -dsimp (disch := try exact vD) only [push_cast, simprocAttr]; (repeat refine aI ?_); intro G hG; refine hG _ _ ?_; clear hG G; (first | refine ⟨_, _, awake_ok, ?_⟩ | refine ⟨_, _, hM.down, ?_⟩ | refine ⟨_, _, h1.down, ?_⟩ | refine ⟨_, _, h2.down, ?_⟩ | refine ⟨_, _, h3.down, ?_⟩ | refine ⟨_, _, h4.down, ?_⟩ | refine ⟨_, _, hff.down, ?_⟩ | refine ⟨_, _, heq.down, ?_⟩ | refine ⟨_, _, hsm.down, ?_⟩); simp -dsimp (disch := try exact vD) only [push_cast, simprocAttr]; (repeat refine aI ?_); apply hK; clear hK K) | ((first | refine AL_go rfl (fun K hK => ?_) | refine AL_go0 (fun K hK => ?_)); (first | apply R_move | apply R_assign | apply Q_load | apply Q_loadAgg | apply Q_fieldAddr | apply Q_len | apply Q_lenStr | apply Q_pick | apply Q_not | apply Q_neg | apply Q_extract | apply Q_box | apply R_alloc | apply Q_store | apply Q_eqAgg | apply Q_neqAgg | apply Q_neqSelf | apply Q_bin); simp -dsimp (disch := try exact vD) only [push_cast, simprocAttr]; (repeat refine aI ?_); apply hK; clear hK K) | ((first | refine AL_guard rfl rfl (fun K1 K2 h1 h2 => ?_) rfl | refine AC_cond_k (fun K1 K2 h1 h2 => ?_)); simp -dsimp (disch := try exact vD) only [push_cast, simprocAttr]; (first | (refine ⟨fun hc => ?_, fun hc => ?_⟩ <;> first | (exfalso; omega) | (exfalso; contradiction) | refine h1 ?_ | refine h2 ?_) | refine h1 ?_ | refine h2 ?_); all_goals clear h1 h2 K1 K2) | apply AL_nil | apply Thn_normal | apply Thn_ret | apply Thn_exit | apply Blk_normal | apply Blk_ret | apply Blk_here | (refine Blk_other rfl ?_) | apply AC_block | apply AC_exit | apply AC_skip | apply AC_ret)
    all_goals first
      | ((refine Ends.mk2 (by first | exact .inr rfl | exact .inl rfl) [] ?_; simp -dsimp (disch := try exact vD) only [push_cast, simprocAttr, Tryd.f7]; (repeat refine aI ?_); try (first | exact vI | fail)); done)
      | trace_state
  · unfold drC
    refine ACall.enter Tryd.func7 rfl (by simp [Tryd.ntmps7]) (by simp) ?_; simp only [entry, idx, Tryd.ntmps7, List.length, List.map_cons, List.map_nil, List.append_nil, List.cons_append, List.nil_append, Nat.reduceAdd, Nat.zero_add, List.length_cons, List.length_nil]
    repeat' (first | apply AC_seq | apply AC_region_lit | ((first | refine AL_go rfl (fun K hK => ?_) | refine AL_go0 (fun K hK => ?_)); (first | refine R_callG (f := 12) [] 0 false ?_); simp -dsimp (disch := try exact vD) only [push_cast, simprocAttr]; (repeat refine aI ?_); intro G hG; refine hG _ _ ?_; clear hG G; (first | refine ⟨_, _, awake_ok, ?_⟩); simp -dsimp (disch := try exact vD) only [push_cast, simprocAttr]; (repeat refine aI ?_); apply hK; clear hK K) | ((first | refine AL_go rfl (fun K hK => ?_) | refine AL_go0 (fun K hK => ?_)); (first | apply R_move | apply R_assign | apply Q_load | apply Q_loadAgg | apply Q_fieldAddr | apply Q_len | apply Q_lenStr | apply Q_pick | apply Q_not | apply Q_neg | apply Q_extract | apply Q_box | apply R_alloc | apply Q_store | apply Q_eqAgg | apply Q_neqAgg | apply Q_neqSelf | apply Q_bin); simp -dsimp (disch := try exact vD) only [push_cast, simprocAttr]; (repeat refine aI ?_); apply hK; clear hK K) | ((first | refine AL_guard rfl rfl (fun K1 K2 h1 h2 => ?_) rfl | refine AC_cond_k (fun K1 K2 h1 h2 => ?_)); simp -dsimp (disch := try exact vD) only [push_cast, simprocAttr]; (first | (refine ⟨fun hc => ?_, fun hc => ?_⟩ <;> first | (exfalso; omega) | (exfalso; contradiction) | refine h1 ?_ | refine h2 ?_) | refine h1 ?_ | refine h2 ?_); all_goals clear h1 h2 K1 K2) | apply AL_nil | apply Thn_normal | apply Thn_ret | apply Thn_exit | apply Blk_normal | apply Blk_ret | apply Blk_here | (refine Blk_other rfl ?_) | apply AC_block | apply AC_exit | apply AC_skip | apply AC_ret)
    all_goals first
      | ((refine Ends.mk2 (by first | exact .inr rfl | exact .inl rfl) [] ?_; simp -dsimp (disch := try exact vD) only [push_cast, simprocAttr, Tryd.f7]; (repeat refine aI ?_); try (first | exact vI | fail)); done)
      | trace_state
end Go.Proofs.YtebinjcofclfaaaDoor
