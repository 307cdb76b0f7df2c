/- Diagrams: the reference's Not. No condition. -/
import Derived.Test.YtebinjcofclfaaaDoorDi24
set_option linter.unusedVariables false
set_option linter.unusedSectionVars false
set_option linter.unusedSimpArgs false
set_option maxHeartbeats 4000000
set_option maxRecDepth 20000
namespace Go.Proofs.YtebinjcofclfaaaDoor
open Go Go.Sy Go.Bp Go.Dg
attribute [local irreducible] AO AL AC OpT ACall Ends DGo DRun Thn Blk Nxt
variable {n N M T k i m r a b j w u v s q x y d : Nat} {z : Bool} {F : List Fo} {p f g : Nat → Bool}
theorem rtable_own (hn : n ≤ 16) (hb : Bnd F) (h16 : ∀ k, k < F.length → (F.getD k default).v < 16) (hN : F.length = N) (hN2 : N < 2 ^ 40) (hr : r < 2 ^ 50) (hT : 2 ^ n = T) : ACall Tryd.prog 20 [.agg [.val (.int .i64 n), .isl z (cR F) N, .val (.int .i64 r)]] [] 0 (.sl 0 0 T 1) [.cells (cB (tabL F r T)) 4] := by
  have hp : 2 ^ n ≤ 2 ^ 16 := Nat.pow_le_pow_right (by omega) hn
  have hpp := Nat.two_pow_pos n
  have hsh := shl64 hn
  rw [hT] at hp hpp hsh
  have hv := fun (t : Nat) (h : t < 65536) => PLift.up (by
    have := value_ok (z := z) (p := n) (q := r) (t := t) hb h16 hN hN2 hr h
    rw [U_of h] at this; exact this)
  have hx := dmy_def; have hy := dmy_def
  refine ACall.enter Tryd.func20 rfl (by simp [Tryd.ntmps20]) (by simp) ?_; simp only [entry, idx, Tryd.ntmps20, List.length, List.map_cons, List.map_nil, List.append_nil, List.cons_append, List.nil_append, Nat.reduceAdd, Nat.zero_add, List.length_cons, List.length_nil]
  repeat' (first | (refine AC_loop_id ?_; refine AC_loop' [0, 9] ([0, 9].length) (rtI z n F N r T) (fun s => T - s.val) (⟨0, by omega⟩) rfl (by unfold rtI; (try simp only [List.cons_append, List.nil_append]); refine Sub.mk2 ?_; (simp -dsimp (disch := try exact vD) only [push_cast, simprocAttr, hy, hsh, cB_tabs, tabL_len]); (repeat refine aI ?_); first | done | exact vI) ?_; (rintro ⟨s, hs⟩; rcases Nat.lt_or_eq_of_le hs with hsl | hsl <;> first | (have es : T = s := hsl.symm; subst es; (simp -dsimp (disch := try exact vD) only [push_cast, simprocAttr, rtI])) | (rcases Nat.eq_zero_or_pos s with h0 | h0 <;> first | (have hx : [AV.val (.bool (valN F s r))] = cB (tabL F r (s + 1)) := (by subst h0; rfl); (simp -dsimp (disch := try exact vD) only [push_cast, simprocAttr, rtI])) | (simp -dsimp (disch := try exact vD) only [push_cast, simprocAttr, rtI])))) | (refine Nxt_id ?_; refine Nxt.mk [0, 2] (⟨s + 1, by omega⟩) rfl (by unfold rtI; (try simp only [List.cons_append, List.nil_append]); refine Sub.mk2 ?_; (simp -dsimp (disch := try exact vD) only [push_cast, simprocAttr, hy, hsh, cB_tabs, tabL_len, hx]); (repeat refine aI ?_); first | done | exact vI) (by first | omega | (dsimp only; omega) | (simp; done) | (simp; omega))) | (refine Nxt_id ?_; refine Nxt.mk [0, 3] (⟨s + 1, by omega⟩) rfl (by unfold rtI; (try simp only [List.cons_append, List.nil_append]); refine Sub.mk2 ?_; (simp -dsimp (disch := try exact vD) only [push_cast, simprocAttr, hy, hsh, cB_tabs, tabL_len, hx]); (repeat refine aI ?_); first | done | exact vI) (by first | omega | (dsimp only; omega) | (simp; done) | (simp; omega))) | (refine Nxt_id ?_; refine Nxt.mk [0, 1] (⟨s + 1, by omega⟩) rfl (by unfold rtI; (try simp only [List.cons_append, List.nil_append]); refine Sub.mk2 ?_; (simp -dsimp (disch := try exact vD) only [push_cast, simprocAttr, hy, hsh, cB_tabs, tabL_len, hx]); (repeat refine aI ?_); first | done | exact vI) (by first | omega | (dsimp only; omega) | (simp; done) | (simp; omega))) | apply AC_seq | apply AC_region_lit | ((first | refine AL_go rfl (fun K hK => ?_) | refine AL_go0 (fun K hK => ?_)); (first | refine R_callG (f := 48) [] 0 false ?_); simp -dsimp (disch := try exact vD) only [push_cast, simprocAttr, hy, hsh, cB_tabs, tabL_len]; (repeat refine aI ?_); intro G hG; refine hG _ _ ?_; clear hG G; (first | refine ⟨_, _, (hv s (by omega)).down, ?_⟩); simp -dsimp (disch := try exact vD) only [push_cast, simprocAttr, hy, hsh, cB_tabs, tabL_len]; (repeat refine aI ?_); apply hK; clear hK K) | ((first | refine AL_go rfl (fun K hK => ?_) | refine AL_go0 (fun K hK => ?_)); (first | apply R_move | apply R_assign | apply Q_load | apply Q_loadAgg | apply Q_fieldAddr | apply Q_box | apply Q_buildSlice | apply Q_convert | apply Q_bin | apply Q_appendNil); simp -dsimp (disch := try exact vD) only [push_cast, simprocAttr, hy, hsh, cB_tabs, tabL_len]; (repeat refine aI ?_); apply hK; clear hK K) | ((first | refine AL_go rfl (fun K hK => ?_) | refine AL_go0 (fun K hK => ?_)); (first | apply Q_append); simp -dsimp (disch := try exact vD) only [push_cast, simprocAttr, hy, hsh, cB_tabs, tabL_len]; (repeat refine aI ?_); apply hK; clear hK K) | ((first | refine AL_go rfl (fun K hK => ?_) | refine AL_go0 (fun K hK => ?_)); (first | apply Q_append00); simp -dsimp (disch := try exact vD) only [push_cast, simprocAttr, hy, hsh, cB_tabs, tabL_len]; (repeat refine aI ?_); apply hK; clear hK K) | ((first | refine AL_go rfl (fun K hK => ?_) | refine AL_go0 (fun K hK => ?_)); (first | apply Q_appendIn); simp -dsimp (disch := try exact vD) only [push_cast, simprocAttr, hy, hsh, cB_tabs, tabL_len]; (repeat refine aI ?_); apply hK; clear hK K) | ((first | refine AL_guard rfl rfl (fun K1 K2 h1 h2 => ?_) rfl | refine AC_cond_k (fun K1 K2 h1 h2 => ?_)); simp -dsimp (disch := try exact vD) only [push_cast, simprocAttr, hy, hsh, cB_tabs, tabL_len]; (first | (refine ⟨fun hc => ?_, fun hc => ?_⟩ <;> first | (exfalso; omega) | (exfalso; contradiction) | refine h1 ?_ | refine h2 ?_) | refine h1 ?_ | refine h2 ?_); all_goals clear h1 h2 K1 K2) | apply AL_nil | apply Thn_normal | apply Thn_ret | apply Thn_exit | apply Blk_normal | apply Blk_ret | apply Blk_here | (refine Blk_other rfl ?_) | apply AC_block | apply AC_exit | apply AC_skip | apply AC_ret)
  all_goals first
    | ((refine Ends.mk2 (by first | exact .inr rfl | exact .inl rfl) [1] ?_; simp -dsimp (disch := try exact vD) only [push_cast, simprocAttr, Tryd.f20]; (repeat refine aI ?_); try (first | exact vI | fail)); done)
    | trace_state
def ngP (p : Nat → Bool) (i k : Nat) : Bool := if k < i then !p k else p k
theorem ngP_0 : ngP p 0 = p := funext fun k => if_neg (by omega)
theorem ngP_at : ngP p i i = p i := if_neg (by omega)
theorem ngP_s : ngP p (i + 1) i = !p i := if_pos (by omega)
theorem ngP_s' (h : k ≠ i) : ngP p (i + 1) k = ngP p i k := by
  unfold ngP
  by_cases e : k < i
  · rw [if_pos e, if_pos (by omega)]
  · rw [if_neg e, if_neg (by omega)]
def dnI (z : Bool) (n : Nat) (F : List Fo) (N r T : Nat) (p : Nat → Bool) (i : {i : Nat // i ≤ T}) : St :=
  ⟨25, 0, [(1,.pt 0 0), (2,.pt 1 0), (3,.sl 2 0 T 1), (4,.val (.int .i64 i.val))], [(0, some (.cells [.val (.int .i64 n), .isl z (cR F) N, .val (.int .i64 r)] 28)), (1, some zDO), (2, some (.cells (cB (tblP (ngP p i.val) T)) 4))]⟩
theorem rnot_w (hn : n ≤ 12) (hb : Bnd F) (h16 : ∀ k, k < F.length → (F.getD k default).v < 16) (hN : F.length = N) (hN2 : N < 2 ^ 40) (hr : r < 2 ^ 50) (hT : 2 ^ n = T) :
    ACall Tryd.prog 27 [.agg [.val (.int .i64 n), .isl z (cR F) N, .val (.int .i64 r)]] [] 0 (dgV ((fromT n fun t => !valN F t r).1.length == 0) n (fromT n fun t => !valN F t r).1 (fromT n fun t => !valN F t r).2) [] := by
  obtain ⟨p, hpp⟩ : ∃ p : Nat → Bool, (fun t => valN F t r) = p := ⟨_, rfl⟩
  have htl : tabL F r T = tblP p T := by rw [← hpp]; rfl
  have htb := PLift.up (rtable_own (z := z) (by omega) hb h16 hN hN2 hr hT)
  rw [htl] at htb
  have e : (fun t => !valN F t r) = fun t => !p t := by rw [← hpp]
  rw [e]
  have hp : 2 ^ n ≤ 2 ^ 12 := Nat.pow_le_pow_right (by omega) hn
  rw [hT] at hp
  have hfr := PLift.up (from_ok' (n := n) (tb := tblP (ngP p T) T) (M := T) (by omega) tblP_len hT.symm)
  have hfe : fromL n (tblP (ngP p T) T) = fromT n (fun t => !p t) := from_congr fun t ht => by rw [tblP_at (by omega)]; exact if_pos (by omega)
  rw [hfe] at hfr
  have htk := tk_tblP (p := ngP p T) (T := T)
  have h0 := ngP_0 (p := p)
  clear e htl hpp
  unfold dgV at *
  generalize ((fromT n fun t => !p t).1.length == 0) = zb at hfr ⊢
  generalize (fromT n fun t => !p t) = R at hfr ⊢
  have hg := dmy_def; have hst := dmy_def; have hv := dmy_def
  refine ACall.enter Tryd.func27 rfl (by simp [Tryd.ntmps27]) (by simp) ?_; simp only [entry, idx, Tryd.ntmps27, List.length, List.map_cons, List.map_nil, List.append_nil, List.cons_append, List.nil_append, Nat.reduceAdd, Nat.zero_add, List.length_cons, List.length_nil]
  repeat' (first | ((first | refine AC_frzS (r := 6) 2 ?_ | refine AC_frzR (r := 6) 2 ?_); simp -dsimp (disch := try exact vD) only [push_cast, simprocAttr, h0, hg, hst, hv, htk, tblP_len]; (repeat refine aI ?_); intro K hK; refine hK _ _ ?_; clear hK K) | (refine AC_loop_id ?_; refine AC_loop' [0, 1, 2] ([0, 1, 2].length) (dnI z n F N r T p) (fun i => T - i.val) (⟨0, by omega⟩) rfl (by unfold dnI; (try simp only [List.cons_append, List.nil_append]); refine Sub.mk2 ?_; (simp -dsimp (disch := try exact vD) only [push_cast, simprocAttr, h0, hg, hst, hv, htk, tblP_len]); (repeat refine aI ?_); first | done | exact vI) ?_; (rintro ⟨i, hi⟩; rcases Nat.lt_or_eq_of_le hi with hil | hil <;> first | (have ei : T = i := hil.symm; subst ei; (simp -dsimp (disch := try exact vD) only [push_cast, simprocAttr, dnI])) | (have lt1 : (tblP (ngP p i) T).length = T := tblP_len; have hg := tblP_d (p := ngP p i) hil; rw [ngP_at] at hg; have hst : (cB (tblP (ngP p i) T)).set i (.val (.bool (!p i))) = cB (tblP (ngP p (i + 1)) T) := tblP_set hil ngP_s (fun k _ hk => ngP_s' hk); rcases Bool.eq_false_or_eq_true (p i) with hv | hv <;> rw [hv] at hg hst <;> (try simp only [Bool.not_true, Bool.not_false] at hst) <;> (simp -dsimp (disch := try exact vD) only [push_cast, simprocAttr, dnI])))) | (refine Nxt_id ?_; refine Nxt.mk [0, 1, 2] (⟨i + 1, by omega⟩) rfl (by unfold dnI; (try simp only [List.cons_append, List.nil_append]); refine Sub.mk2 ?_; (simp -dsimp (disch := try exact vD) only [push_cast, simprocAttr, h0, hg, hst, hv, htk, tblP_len]); (repeat refine aI ?_); first | done | exact vI) (by first | omega | (dsimp only; omega) | (simp; done) | (simp; omega))) | apply AC_seq | apply AC_region_lit | ((first | refine AL_go rfl (fun K hK => ?_) | refine AL_go0 (fun K hK => ?_)); (first | refine R_callG (f := 20) [] 0 false ?_ | refine R_callG (f := 41) [] 0 false ?_); simp -dsimp (disch := try exact vD) only [push_cast, simprocAttr, h0, hg, hst, hv, htk, tblP_len]; (repeat refine aI ?_); intro G hG; refine hG _ _ ?_; clear hG G; (first | refine ⟨_, _, htb.down, ?_⟩ | refine ⟨_, _, hfr.down, ?_⟩); simp -dsimp (disch := try exact vD) only [push_cast, simprocAttr, h0, hg, hst, hv, htk, tblP_len]; (repeat refine aI ?_); apply hK; clear hK K) | ((first | refine AL_go rfl (fun K hK => ?_) | refine AL_go0 (fun K hK => ?_)); (first | apply R_move | apply R_assign | apply Q_load | apply Q_loadAgg | apply Q_fieldAddr | apply Q_indexAddr | apply Q_indexArr | apply Q_len | apply Q_lenStr | apply Q_not | apply Q_neg | apply Q_box | apply R_alloc | apply Q_store | apply Q_bin); simp -dsimp (disch := try exact vD) only [push_cast, simprocAttr, h0, hg, hst, hv, htk, tblP_len]; (repeat refine aI ?_); apply hK; clear hK K) | ((first | refine AL_guard rfl rfl (fun K1 K2 h1 h2 => ?_) rfl | refine AC_cond_k (fun K1 K2 h1 h2 => ?_)); simp -dsimp (disch := try exact vD) only [push_cast, simprocAttr, h0, hg, hst, hv, htk, tblP_len]; (first | (refine ⟨fun hc => ?_, fun hc => ?_⟩ <;> first | (exfalso; omega) | (exfalso; contradiction) | refine h1 ?_ | refine h2 ?_) | refine h1 ?_ | refine h2 ?_); all_goals clear h1 h2 K1 K2) | apply AL_nil | apply Thn_normal | apply Thn_ret | apply Thn_exit | apply Blk_normal | apply Blk_ret | apply Blk_here | (refine Blk_other rfl ?_) | apply AC_block | apply AC_exit | apply AC_skip | apply AC_ret)
  all_goals first
    | ((refine Ends.mk2 (by first | exact .inr rfl | exact .inl rfl) [] ?_; simp -dsimp (disch := try exact vD) only [push_cast, simprocAttr, Tryd.f27]; (repeat refine aI ?_); try (first | exact vI | fail)); done)
    | trace_state
end Go.Proofs.YtebinjcofclfaaaDoor
