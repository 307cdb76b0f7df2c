/- Diagrams: the reference's Counts. No condition. -/
import Derived.Test.YtebinjcofclfaaaDoorDi24
import Derived.Test.YtebinjcofclfaaaDoorDi16
import Derived.Test.YtebinjcofclfaaaDoorBuS
set_option linter.unusedVariables false
set_option linter.unusedSectionVars false
set_option linter.unusedSimpArgs false
set_option maxHeartbeats 4000000
set_option maxRecDepth 20000
namespace Go.Proofs.YtebinjcofclfaaaDoor
open Go Go.Sy Go.Bp Go.Dg
attribute [local irreducible] AO AL AC OpT ACall Ends DGo DRun Thn Blk Nxt
variable {n N M T k i m r a b j w u v s q x y d : Nat} {z : Bool} {F : List Fo} {p f g : Nat → Bool}
theorem rcountN_ok (hs : s < 65536) : ACall Tryd.prog 44 [.val (.int .u16 (s : Int))] [] 0 (.val (.int .i64 (memL s 16 : Nat))) [] := count_ok hs
def cfN (p : Nat → Bool) (s k : Nat) : Nat := ((List.range s).filter fun t => p t && decide (memL t 16 = k)).length
theorem tab_setI {f g : Nat → Nat} {v : Int} (hj : j < m) (hg : v = (g j : Nat)) (h : ∀ k, k < m → k ≠ j → g k = f k) : (NI (tabN m f)).set j v = NI (tabN m g) := by
  subst hg
  unfold NI tabN
  rw [List.map_map, List.map_map]
  apply List.ext_getElem (by simp)
  intro q h1 h2
  rw [List.getElem_set]
  simp only [List.getElem_map, List.getElem_range, Function.comp]
  by_cases e : j = q
  · rw [if_pos e, e]
  · rw [if_neg e, h q (by simpa using h2) (fun e' => e e'.symm)]
theorem cfN_0 : cfN p 0 k = 0 := rfl
theorem cfN_s : cfN p (s + 1) k = cfN p s k + if p s = true ∧ memL s 16 = k then 1 else 0 := by
  unfold cfN
  rw [List.range_succ, List.filter_append, List.length_append]
  congr 1
  by_cases h : p s = true ∧ memL s 16 = k
  · rw [if_pos h, List.filter_cons_of_pos (by simp [h.1, h.2])]; rfl
  · rw [if_neg h, List.filter_cons_of_neg (by
      intro hc
      simp only [Bool.and_eq_true, decide_eq_true_eq] at hc
      exact h hc)]; rfl
theorem cfN_le : cfN p s k ≤ s := by unfold cfN; exact Nat.le_trans (List.length_filter_le ..) (by rw [List.length_range]; exact Nat.le_refl _)
def dcI (z : Bool) (n : Nat) (F : List Fo) (N r T : Nat) (p : Nat → Bool) (s : {s : Nat // s ≤ T}) : St :=
  ⟨31, 0, [(1,.pt 0 0), (3,.sl 1 0 (n + 1) 1), (4,.isl false (cB (tblP p T)) T), (5,.val (.int .i64 s.val))], [(0, some (.cells [.val (.int .i64 n), .isl z (cR F) N, .val (.int .i64 r)] 28)), (1, some (.cells (cI .i64 (NI (tabN (n + 1) (cfN p s.val)))) 2))]⟩
theorem rcounts_w {CL : List Nat} (hn : n ≤ 6) (hb : Bnd F) (h16 : ∀ k, k < F.length → (F.getD k default).v < 16) (hN : F.length = N) (hN2 : N < 2 ^ 40) (hr : r < 2 ^ 50) (hCL : tabN (n + 1) (cfN (fun t => valN F t r) (2 ^ n)) = CL) :
    ACall Tryd.prog 17 [.agg [.val (.int .i64 n), .isl z (cR F) N, .val (.int .i64 r)]] [] 0 (.isl false (cI .i64 (NI CL)) (n + 1)) [] := by
  obtain ⟨T, hT⟩ : ∃ T, 2 ^ n = T := ⟨_, rfl⟩
  rw [hT] at hCL
  obtain ⟨p, hpp⟩ : ∃ p : Nat → Bool, (fun t => valN F t r) = p := ⟨_, rfl⟩
  have htl : tabL F r T = tblP p T := by rw [← hpp]; rfl
  have htb := PLift.up (rtable_ok (z := z) (by omega) hb h16 hN hN2 hr hT)
  rw [htl] at htb
  rw [hpp] at hCL
  have hp : 2 ^ n ≤ 2 ^ 6 := Nat.pow_le_pow_right (by omega) hn
  rw [hT] at hp
  have hmc : ∀ s, s < T → memL s 16 ≤ n := fun s hs => by
    have := pc_mem n hn s (by omega)
    rw [← this]; unfold pc
    exact Nat.le_trans (List.length_filter_le ..) (by rw [List.length_range]; exact Nat.le_refl _)
  have hrc := fun (s : Nat) (h : s < 65536) => PLift.up (rcountN_ok h)
  have hz := tab_zero (m := n + 1) (f := cfN p 0) (fun q hq => cfN_0)
  have hCT : (NI CL).take (n + 1) = NI CL := List.take_of_length_le (by rw [NI_len, ← hCL, tabN_len]; exact Nat.le_refl _)
  clear htl hpp
  have hg := dmy_def; have hst := dmy_def; have hv := dmy_def; have hgo := dmy_def; have hst2 := dmy_def; have hsn := dmy_def
  refine ACall.enter Tryd.func17 rfl (by simp [Tryd.ntmps17]) (by simp) ?_; simp only [entry, idx, Tryd.ntmps17, List.length, List.map_cons, List.map_nil, List.append_nil, List.cons_append, List.nil_append, Nat.reduceAdd, Nat.zero_add, List.length_cons, List.length_nil]
  repeat' (first | (refine AC_loop_id ?_; refine AC_loop' [0, 1] ([0, 1].length) (dcI z n F N r T p) (fun s => T - s.val) (⟨0, by omega⟩) rfl (by unfold dcI; (try simp only [List.cons_append, List.nil_append]); refine Sub.mk2 ?_; (simp -dsimp (disch := try exact vD) only [push_cast, simprocAttr, hz, hg, hgo, hst, hst2, hv, hsn, tblP_len]); (repeat refine aI ?_); first | done | exact vI) ?_; (rintro ⟨s, hs⟩; rcases Nat.lt_or_eq_of_le hs with hsl | hsl <;> first | (have es : T = s := hsl.symm; subst es; (simp -dsimp (disch := try exact vD) only [push_cast, simprocAttr, dcI])) | (have lt1 : (tblP p T).length = T := tblP_len; have lt2 : (NI (tabN (n + 1) (cfN p s))).length = n + 1 := (by rw [NI_len, tabN_len]); have hg := tblP_d (p := p) hsl; have hm := hmc s hsl; rcases Bool.eq_false_or_eq_true (p s) with hv | hv <;> rw [hv] at hg <;> first | (have hvt : p s = true := hv; have hcl := cfN_le (p := p) (s := s) (k := memL s 16); have hgo := NI_tab (f := cfN p s) (j := memL s 16) (m := n + 1) (by omega); have hst : (cI .i64 (NI (tabN (n + 1) (cfN p s)))).set (memL s 16) (.val (.int .i64 (((cfN p s (memL s 16) : Nat) : Int) + 1))) = cI .i64 (NI (tabN (n + 1) (cfN p (s + 1)))) := tab_set (by omega) (by rw [cfN_s, if_pos ⟨hv, rfl⟩]; omega) (fun q hq hne => by rw [cfN_s, if_neg (fun h => hne h.2.symm)]; rfl); have hst2 : (NI (tabN (n + 1) (cfN p s))).set (memL s 16) (((cfN p s (memL s 16) : Nat) : Int) + 1) = NI (tabN (n + 1) (cfN p (s + 1))) := tab_setI (by omega) (by rw [cfN_s, if_pos ⟨hv, rfl⟩]; omega) (fun q hq hne => by rw [cfN_s, if_neg (fun h => hne h.2.symm)]; rfl); obtain ⟨e, hee⟩ : ∃ e, cfN p s (memL s 16) = e := ⟨_, rfl⟩; rw [hee] at hcl hgo hst hst2; (simp -dsimp (disch := try exact vD) only [push_cast, simprocAttr, dcI])) | (have hsn : NI (tabN (n + 1) (cfN p (s + 1))) = NI (tabN (n + 1) (cfN p s)) := (by congr 2; funext k; rw [cfN_s, if_neg (fun h => by rw [hv] at h; cases h.1)]; rfl); (simp -dsimp (disch := try exact vD) only [push_cast, simprocAttr, dcI]))))) | (refine Nxt_id ?_; refine Nxt.mk [0, 1] (⟨s + 1, by omega⟩) rfl (by unfold dcI; (try simp only [List.cons_append, List.nil_append]); refine Sub.mk2 ?_; (simp -dsimp (disch := try exact vD) only [push_cast, simprocAttr, hz, hg, hgo, hst, hst2, hv, hsn, tblP_len]); (repeat refine aI ?_); first | done | exact vI) (by first | omega | (dsimp only; omega) | (simp; done) | (simp; omega))) | apply AC_seq | apply AC_region_lit | ((first | refine AL_go rfl (fun K hK => ?_) | refine AL_go0 (fun K hK => ?_)); (first | refine R_callG (f := 20) [] 0 false ?_ | refine R_callG (f := 44) [] 0 false ?_); simp -dsimp (disch := try exact vD) only [push_cast, simprocAttr, hz, hg, hgo, hst, hst2, hv, hsn, tblP_len]; (repeat refine aI ?_); intro G hG; refine hG _ _ ?_; clear hG G; (first | refine ⟨_, _, htb.down, ?_⟩ | refine ⟨_, _, (hrc s (by omega)).down, ?_⟩); simp -dsimp (disch := try exact vD) only [push_cast, simprocAttr, hz, hg, hgo, hst, hst2, hv, hsn, tblP_len]; (repeat refine aI ?_); apply hK; clear hK K) | ((first | refine AL_go rfl (fun K hK => ?_) | refine AL_go0 (fun K hK => ?_)); (first | apply R_move | apply R_assign | apply Q_load | apply Q_loadAgg | apply Q_fieldAddr | apply Q_indexAddr | apply Q_indexArr | apply Q_len | apply Q_lenStr | apply Q_box | apply Q_store | apply Q_makeSlice | apply Q_convert | apply Q_bin); simp -dsimp (disch := try exact vD) only [push_cast, simprocAttr, hz, hg, hgo, hst, hst2, hv, hsn, tblP_len]; (repeat refine aI ?_); apply hK; clear hK K) | ((first | refine AL_guard rfl rfl (fun K1 K2 h1 h2 => ?_) rfl | refine AC_cond_k (fun K1 K2 h1 h2 => ?_)); simp -dsimp (disch := try exact vD) only [push_cast, simprocAttr, hz, hg, hgo, hst, hst2, hv, hsn, tblP_len]; (first | (refine ⟨fun hc => ?_, fun hc => ?_⟩ <;> first | (exfalso; omega) | (exfalso; contradiction) | refine h1 ?_ | refine h2 ?_) | refine h1 ?_ | refine h2 ?_); all_goals clear h1 h2 K1 K2) | apply AL_nil | apply Thn_normal | apply Thn_ret | apply Thn_exit | apply Blk_normal | apply Blk_ret | apply Blk_here | (refine Blk_other rfl ?_) | apply AC_block | apply AC_exit | apply AC_skip | apply AC_ret)
  all_goals first
    | (((refine Ends.frz 1 ?_; simp -dsimp (disch := try exact vD) only [push_cast, simprocAttr, Tryd.f17, hCL, hCT]; (repeat refine aI ?_); intro K hK; refine hK _ _ ?_; clear hK K); refine Ends.mk2 (by first | exact .inr rfl | exact .inl rfl) [] ?_; simp -dsimp (disch := try exact vD) only [push_cast, simprocAttr, Tryd.f17, hCL, hCT]; (repeat refine aI ?_); try (first | exact vI | fail)); done)
    | trace_state
end Go.Proofs.YtebinjcofclfaaaDoor
