/- Diagrams: the reference's Dual. No condition. -/
import Derived.Test.YtebinjcofclfaaaDoorDi20
import Derived.Test.YtebinjcofclfaaaDoorDi15
set_option linter.unusedVariables false
set_option linter.unusedSectionVars false
set_option linter.unusedSimpArgs false
set_option maxHeartbeats 4000000
set_option maxRecDepth 20000
namespace Go.Proofs.YtebinjcofclfaaaDoor
open Go Go.Sy Go.Bp Go.Dg
attribute [local irreducible] AO AL AC OpT ACall Ends DGo DRun Thn Blk Nxt
variable {n N M T k i m r a b j w u v s q x y d : Nat} {z : Bool} {F : List Fo} {p f g : Nat → Bool}
theorem tblP_set {v : Bool} (hj : j < T) (hg : g j = v) (h : ∀ k, k < T → k ≠ j → g k = f k) : (cB (tblP f T)).set j (.val (.bool v)) = cB (tblP g T) := by
  subst hg
  unfold cB tblP
  rw [List.map_map, List.map_map]
  apply List.ext_getElem (by simp)
  intro q h1 h2
  rw [List.getElem_set]
  simp only [List.getElem_map, List.getElem_range, Function.comp]
  by_cases e : j = q
  · rw [if_pos e, e]
  · rw [if_neg e, h q (by simpa using h2) (fun e' => e e'.symm)]
theorem tblP_d (h : s < T) : (tblP p T).getD s default = p s := tblP_at h
theorem tblP_l : tblP p s ++ [p s] = tblP p (s + 1) := by unfold tblP; rw [List.range_succ]; simp
def dlP (p : Nat → Bool) (T k : Nat) : Bool := !p (T - 1 - k)
def ddI (z : Bool) (n : Nat) (F : List Fo) (N r T : Nat) (p : Nat → Bool) (j : {j : Nat // j ≤ T}) : St :=
  ⟨27, 0, [(1,.pt 0 0), (2,.pt 1 0), (3,nilOr j.val 2 1), (4,.isl false (cB (tblP p T)) T), (5,.val (.int .i64 ((T : Int) - 1 - (j.val : Int))))], [(0, some (.cells [.val (.int .i64 n), .isl z (cR F) N, .val (.int .i64 r)] 28)), (1, some zDO)] ++ nilOb j.val 2 (cB (tblP (dlP p T) j.val)) 4⟩
theorem rdual_w (hn : n ≤ 12) (hb : Bnd F) (h16 : ∀ k, k < F.length → (F.getD k default).v < 16) (hN : F.length = N) (hN2 : N < 2 ^ 40) (hr : r < 2 ^ 50) (hT : 2 ^ n = T) :
    ACall Tryd.prog 15 [.agg [.val (.int .i64 n), .isl z (cR F) N, .val (.int .i64 r)]] [] 0 (dgV ((fromT n fun t => !valN F (cpl n t) r).1.length == 0) n (fromT n fun t => !valN F (cpl n t) r).1 (fromT n fun t => !valN F (cpl n t) r).2) [] := by
  obtain ⟨p, hpp⟩ : ∃ p : Nat → Bool, (fun t => valN F t r) = p := ⟨_, rfl⟩
  have htl : tabL F r T = tblP p T := by rw [← hpp]; rfl
  have htb := PLift.up (rtable_ok (z := z) (by omega) hb h16 hN hN2 hr hT)
  rw [htl] at htb
  have e : (fun t => !valN F (cpl n t) r) = fun t => !p (cpl n t) := by rw [← hpp]
  rw [e]
  have hp : 2 ^ n ≤ 2 ^ 12 := Nat.pow_le_pow_right (by omega) hn
  have hTp := Nat.two_pow_pos n
  rw [hT] at hp hTp
  have hfr := PLift.up (from_ok' (n := n) (tb := tblP (dlP p T) T) (M := T) (by omega) tblP_len hT.symm)
  have hfe : fromL n (tblP (dlP p T) T) = fromT n (fun t => !p (cpl n t)) := from_congr fun t ht => by rw [tblP_at (by omega)]; unfold dlP cpl; rw [hT]
  rw [hfe] at hfr
  have htk := tk_tblP (p := dlP p T) (T := T)
  have hT1 : ((T : Int) - 1 - 0) = (T : Int) - 1 := by omega
  clear e htl hpp
  unfold dgV at *
  generalize ((fromT n fun t => !p (cpl n t)).1.length == 0) = zb at hfr ⊢
  generalize (fromT n fun t => !p (cpl n t)) = R at hfr ⊢
  have hg := dmy_def; have hsn := dmy_def; have hv := dmy_def; have hpi := dmy_def; have hpn := dmy_def
  refine ACall.enter Tryd.func15 rfl (by simp [Tryd.ntmps15]) (by simp) ?_; simp only [entry, idx, Tryd.ntmps15, List.length, List.map_cons, List.map_nil, List.append_nil, List.cons_append, List.nil_append, Nat.reduceAdd, Nat.zero_add, List.length_cons, List.length_nil]
  repeat' (first | ((first | refine AC_frzS (r := 7) 2 ?_ | refine AC_frzR (r := 7) 2 ?_); simp -dsimp (disch := try exact vD) only [push_cast, simprocAttr, hg, hv, hpi, hpn, htk, tblP_len]; (repeat refine aI ?_); intro K hK; refine hK _ _ ?_; clear hK K) | (refine AC_loop_id ?_; refine AC_loop' [0, 1, 9] ([0, 1, 9].length) (ddI z n F N r T p) (fun j => T - j.val) (⟨0, by omega⟩) rfl (by unfold ddI; (try simp only [List.cons_append, List.nil_append]); refine Sub.mk2 ?_; (simp -dsimp (disch := try exact vD) only [push_cast, simprocAttr, hg, hv, hpi, hpn, htk, tblP_len]); (repeat refine aI ?_); first | done | exact vI) ?_; (rintro ⟨j, hj⟩; rcases Nat.lt_or_eq_of_le hj with hjl | hjl <;> first | (have ej : T = j := hjl.symm; subst ej; have hpi : ((T : Int) - 1 - (T : Int)) = -1 := (by omega); (simp -dsimp (disch := try exact vD) only [push_cast, simprocAttr, ddI])) | (obtain ⟨c, hc1⟩ : ∃ c, T = j + c + 1 := ⟨T - j - 1, by omega⟩; have hpi : ((T : Int) - 1 - (j : Int)) = (c : Int) := (by omega); have hpn : ((T : Int) - 1 - ((j : Int) + 1)) = (c : Int) - 1 := (by omega); have lt1 : (tblP p T).length = T := tblP_len; have hg := tblP_d (p := p) (show c < T by omega); have hdc : dlP p T j = !p c := (by unfold dlP; rw [show T - 1 - j = c by omega]); have hsn := tblP_l (p := dlP p T) (s := j); rw [hdc] at hsn; rcases Bool.eq_false_or_eq_true (p c) with hv | hv <;> rw [hv] at hg hsn <;> (try simp only [Bool.not_true, Bool.not_false] at hsn) <;> rcases Nat.eq_zero_or_pos j with j0 | j0 <;> first | (subst j0; have hpi : ((T : Int) - 1) = (c : Int) := (by omega); have hpn : ((T : Int) - 1 - 1) = (c : Int) - 1 := (by omega); have hsn := congrArg cB hsn; have hsn : [AV.val (.bool _)] = cB (tblP (dlP p T) 1) := hsn; (simp -dsimp (disch := try exact vD) only [push_cast, simprocAttr, ddI])) | (simp -dsimp (disch := try exact vD) only [push_cast, simprocAttr, ddI])))) | (refine Nxt_id ?_; refine Nxt.mk [0, 1, 4] (⟨1, by omega⟩) rfl (by unfold ddI; (try simp only [List.cons_append, List.nil_append]); refine Sub.mk2 ?_; (simp -dsimp (disch := try exact vD) only [push_cast, simprocAttr, hg, hv, hpi, hpn, htk, tblP_len, hsn]); (repeat refine aI ?_); first | done | exact vI) (by first | omega | (dsimp only; omega) | (simp; done) | (simp; omega))) | (refine Nxt_id ?_; refine Nxt.mk [0, 1, 4] (⟨j + 1, by omega⟩) rfl (by unfold ddI; (try simp only [List.cons_append, List.nil_append]); refine Sub.mk2 ?_; (simp -dsimp (disch := try exact vD) only [push_cast, simprocAttr, hg, hv, hpi, hpn, htk, tblP_len, hsn]); (repeat refine aI ?_); first | done | exact vI) (by first | omega | (dsimp only; omega) | (simp; done) | (simp; omega))) | (refine Nxt_id ?_; refine Nxt.mk [0, 1, 3] (⟨j + 1, by omega⟩) rfl (by unfold ddI; (try simp only [List.cons_append, List.nil_append]); refine Sub.mk2 ?_; (simp -dsimp (disch := try exact vD) only [push_cast, simprocAttr, hg, hv, hpi, hpn, htk, tblP_len, hsn]); (repeat refine aI ?_); first | done | exact vI) (by first | omega | (dsimp only; omega) | (simp; done) | (simp; omega))) | apply AC_seq | apply AC_region_lit | ((first | refine AL_go rfl (fun K hK => ?_) | refine AL_go0 (fun K hK => ?_)); (first | refine R_callG (f := 20) [] 0 false ?_ | refine R_callG (f := 41) [] 0 false ?_); simp -dsimp (disch := try exact vD) only [push_cast, simprocAttr, hg, hv, hpi, hpn, htk, tblP_len]; (repeat refine aI ?_); intro G hG; refine hG _ _ ?_; clear hG G; (first | refine ⟨_, _, htb.down, ?_⟩ | refine ⟨_, _, hfr.down, ?_⟩); simp -dsimp (disch := try exact vD) only [push_cast, simprocAttr, hg, hv, hpi, hpn, htk, tblP_len]; (repeat refine aI ?_); apply hK; clear hK K) | ((first | refine AL_go rfl (fun K hK => ?_) | refine AL_go0 (fun K hK => ?_)); (first | apply R_move | apply R_assign | apply Q_load | apply Q_loadAgg | apply Q_fieldAddr | apply Q_indexAddr | apply Q_indexArr | apply Q_len | apply Q_lenStr | apply Q_not | apply Q_neg | apply Q_box | apply R_alloc | apply Q_store | apply Q_buildSlice | apply Q_bin | apply Q_appendNil); simp -dsimp (disch := try exact vD) only [push_cast, simprocAttr, hg, hv, hpi, hpn, htk, tblP_len]; (repeat refine aI ?_); apply hK; clear hK K) | ((first | refine AL_go rfl (fun K hK => ?_) | refine AL_go0 (fun K hK => ?_)); (first | apply Q_append); simp -dsimp (disch := try exact vD) only [push_cast, simprocAttr, hg, hv, hpi, hpn, htk, tblP_len]; (repeat refine aI ?_); apply hK; clear hK K) | ((first | refine AL_go rfl (fun K hK => ?_) | refine AL_go0 (fun K hK => ?_)); (first | apply Q_append00); simp -dsimp (disch := try exact vD) only [push_cast, simprocAttr, hg, hv, hpi, hpn, htk, tblP_len]; (repeat refine aI ?_); apply hK; clear hK K) | ((first | refine AL_go rfl (fun K hK => ?_) | refine AL_go0 (fun K hK => ?_)); (first | apply Q_appendIn); simp -dsimp (disch := try exact vD) only [push_cast, simprocAttr, hg, hv, hpi, hpn, htk, tblP_len]; (repeat refine aI ?_); apply hK; clear hK K) | ((first | refine AL_guard rfl rfl (fun K1 K2 h1 h2 => ?_) rfl | refine AC_cond_k (fun K1 K2 h1 h2 => ?_)); simp -dsimp (disch := try exact vD) only [push_cast, simprocAttr, hg, hv, hpi, hpn, htk, tblP_len]; (first | (refine ⟨fun hc => ?_, fun hc => ?_⟩ <;> first | (exfalso; omega) | (exfalso; contradiction) | refine h1 ?_ | refine h2 ?_) | refine h1 ?_ | refine h2 ?_); all_goals clear h1 h2 K1 K2) | apply AL_nil | apply Thn_normal | apply Thn_ret | apply Thn_exit | apply Blk_normal | apply Blk_ret | apply Blk_here | (refine Blk_other rfl ?_) | apply AC_block | apply AC_exit | apply AC_skip | apply AC_ret)
  all_goals first
    | ((refine Ends.mk2 (by first | exact .inr rfl | exact .inl rfl) [] ?_; simp -dsimp (disch := try exact vD) only [push_cast, simprocAttr, Tryd.f15]; (repeat refine aI ?_); try (first | exact vI | fail)); done)
    | trace_state
end Go.Proofs.YtebinjcofclfaaaDoor
