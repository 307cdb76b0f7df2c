/- Build: the law of grids. No condition. -/
import Derived.Test.YtdeligopifoceaaDoorLawA0
import Derived.Test.YtdeligopifoceaaDoorBu29
import Derived.Test.YtdeligopifoceaaDoorBu30
import Derived.Test.YtdeligopifoceaaDoorBpA
set_option linter.unusedVariables false
set_option linter.unusedSectionVars false
set_option linter.unusedSimpArgs false
set_option linter.unnecessarySimpa false
set_option maxHeartbeats 2000000
set_option maxRecDepth 20000
namespace Go.Proofs.YtdeligopifoceaaDoor
open Go Go.Sy Go.Bp
attribute [local irreducible] AO AL AC OpT ACall Ends DGo DRun Thn Blk Nxt
variable {x y : Ex} {s n c i j : Nat} {a b : Int}
theorem Same_self (hx : Short x) : ACall Tryd.prog 20 [.agg (Cells.cells x), .agg (Cells.cells x)] [] 0 (.val (.bool true)) [] := by
  have h := Same_ok hx hx; rwa [sameX_refl] at h
/-- Where a grid has an error. -/
theorem grid_bad {i : Int} (h : gridE a b = (default, default, i)) (h0 : ¬ i = 0) : ACall Tryd.prog 4 [.val (.int .i64 a), .val (.int .i64 b), .val (.int .u16 s)] [] 0 (.val (.bool true)) [] := by
  have hG := Gr_ok (a := a) (b := b)
  have hR := RG_ok (a := a) (b := b)
  rw [h] at hG hR
  unfold xxeV at hG hR
  dsimp only at hG hR
  refine ACall.enter Tryd.func4 rfl (by simp [Tryd.ntmps4]) (by simp) ?_
  simp only [entry, idx, Tryd.ntmps4, List.length, List.map_cons, List.map_nil, List.append_nil, List.cons_append, List.nil_append, Nat.reduceAdd, Nat.zero_add, List.length_cons, List.length_nil]
  repeat' (first | (refine AC_seq ?_) | (refine AC_region_lit ?_) | ((first | refine AL_go rfl (fun K hK => ?_) | refine AL_go0 (fun K hK => ?_)); (first | refine R_callG (f := 13) [] 0 false ?_ | refine R_callG (f := 18) [] 0 false ?_ | refine R_callG (f := 19) [] 0 false ?_ | refine R_callG (f := 17) [] 0 false ?_ | refine R_callG (f := 20) [] 0 false ?_); simp (dsimp := false) (disch := first | exact vD | fail) only [push_cast, simprocAttr]; (repeat (refine aI ?_)); intro G hG; refine hG _ _ ?_; clear hG G; (first | refine ⟨_, _, awake_ok, ?_⟩ | refine ⟨_, _, hG, ?_⟩ | refine ⟨_, _, hR, ?_⟩ | refine ⟨_, _, same_self short_dflt, ?_⟩ | refine ⟨_, _, Same_self short_dflt, ?_⟩); simp (dsimp := false) (disch := first | exact vD | fail) only [push_cast, simprocAttr]; (repeat (refine aI ?_)); (first | refine hK _ _ _ ?_ | refine hK _ _ ?_); clear hK K) | ((first | refine AL_go rfl (fun K hK => ?_) | refine AL_go0 (fun K hK => ?_)); (first | refine R_move _ ?_ | refine R_assign _ ?_ | refine Q_load _ _ ?_ | refine Q_loadAgg _ _ ?_ | refine Q_pick _ _ _ ?_ | refine Q_not _ _ ?_ | refine Q_neg _ _ ?_ | refine Q_extract _ _ ?_ | refine R_alloc _ ?_ | refine Q_store _ _ _ ?_ | refine Q_eqAgg _ _ _ _ ?_ | refine Q_neqAgg _ _ _ _ ?_ | refine Q_neqSelf _ _ _ _ ?_ | refine Q_bin _ _ _ _ _ ?_); simp (dsimp := false) (disch := first | exact vD | fail) only [push_cast, simprocAttr]; (repeat (refine aI ?_)); (first | refine hK _ _ _ ?_ | refine hK _ _ ?_); clear hK K) | ((first | refine AL_guard rfl rfl (fun K1 K2 h1 h2 => ?_) rfl | refine AC_cond_k (fun K1 K2 h1 h2 => ?_)); simp (dsimp := false) (disch := first | exact vD | fail) only [push_cast, simprocAttr]; (first | (refine ⟨fun hc => ?_, fun hc => ?_⟩ <;> first | (exfalso; omega) | (exfalso; contradiction) | refine h1 ?_ | refine h2 ?_) | refine h1 ?_ | refine h2 ?_); all_goals clear h1 h2 K1 K2) | (refine AL_nil ?_) | (refine Thn_normal ?_) | (refine Thn_ret ?_) | (refine Thn_exit ?_) | (refine Blk_normal ?_) | (refine Blk_ret ?_) | (refine Blk_here ?_) | (refine Blk_other rfl ?_) | (refine AC_block ?_) | (refine AC_exit ?_) | (refine AC_skip ?_) | (refine AC_ret ?_))
  all_goals (refine Ends.mk2 (by first | exact .inr rfl | exact .inl rfl) [] ?_; simp (dsimp := false) (disch := first | exact vD | fail) only [push_cast, simprocAttr, Tryd.f4]; (repeat (refine aI ?_)); try (first | exact vI | fail))
def fF (s c j : Nat) : Bool := ((List.range j).map fun r => full (bitI s) ((r * c : Nat) : Int) c).any id
def sS (s c j : Nat) : Bool := ((List.range j).map fun r => some' (bitI s) ((r * c : Nat) : Int) c).all id
def fR (s c j : Nat) : Bool := full (bitI s) ((j * c : Nat) : Int) c
def sR (s c j : Nat) : Bool := some' (bitI s) ((j * c : Nat) : Int) c
theorem fF_0 : fF s c 0 = false := rfl
theorem fF_s : fF s c (j + 1) = (fF s c j || fR s c j) := by simp [fF, fR, List.range_succ]
theorem sS_0 : sS s c 0 = true := rfl
theorem sS_s : sS s c (j + 1) = (sS s c j && sR s c j) := by simp [sS, sR, List.range_succ]
def ggI (s n c : Nat) (j : {j : Nat // j ≤ n}) : St :=
  ⟨98, 0, [(1,.val (.int .i64 c)), (2,.val (.int .u16 s)), (7,.pt 0 0), (8,.pt 1 0), (13,.val (.bool (fF s c j.val))), (14,.val (.bool (sS s c j.val))), (63,.val (.int .i64 n)), (64,.val (.int .i64 j.val))],
   [(0, some (.cells (Cells.cells (gridR n c)) 26)), (1, some (.cells (Cells.cells (gridW n c)) 26))]⟩
theorem gridR_eq : thr 1 (gdR c n) true [] = gridR n c := by
  unfold gridR oneX gdR rowsG
  rw [List.map_map]
  congr 1
  refine List.map_congr_left (fun r _ => ?_)
  show thr (c : Int) (servs (upTo ((r : Int) * c) c)) true [] = allX (servs (upTo ((r * c : Nat) : Int) c))
  rw [← all_thr (kids := servs (upTo ((r * c : Nat) : Int) c)) (K := c) (by rw [servs_len, upTo_ln])]
  push_cast; try rfl
theorem gridW_eq : thr n (gdS c n) true [] = gridW n c := by
  unfold gridW gdS rowsG
  rw [← all_thr (K := n) (by simp), List.map_map]
  first | done | congr 1
theorem grid_good (hs : s < 65536) (hn : 1 ≤ n ∧ n ≤ 12) (hc : 1 ≤ c ∧ c ≤ 12) (hp : n * c ≤ 12) : ACall Tryd.prog 4 [.val (.int .i64 n), .val (.int .i64 c), .val (.int .u16 s)] [] 0 (.val (.bool true)) [] := by
  have hG := Gr_ok (a := n) (b := c)
  have hR := RG_ok (a := n) (b := c)
  have hp2 : (n : Int) * c ≤ 12 := by have : ((n * c : Nat) : Int) ≤ 12 := (by omega); push_cast at this; exact this
  rw [gridE_3 (by omega) (by omega)] at hG hR
  unfold xxeV at hG hR
  dsimp only at hG hR
  simp only [Int.toNat_natCast, gridR_eq, gridW_eq] at hG hR
  have hxr := (VOk_gridR hp hc.2).ok (by rw [gridR_len]; exact grid_few hp hn.2)
  have hxw := (VOk_gridW hp hn.2).ok (by rw [gridW_len]; exact grid_few hp hn.2)
  have hfr : XF 157 (gridR n c) := by
    rw [← gridR_eq]
    exact XF_thr (b := 13) (c := 12) (fun x hx => by obtain ⟨r, _, rfl⟩ := List.mem_map.1 hx; exact XF_row hc.2) (by rw [gdR_len]; exact hn.2) (by omega) (fun _ => rfl) (by simp)
  have hfw : XF 157 (gridW n c) := by
    rw [← gridW_eq]
    exact XF_thr (b := 13) (c := 12) (fun x hx => by obtain ⟨r, _, rfl⟩ := List.mem_map.1 hx; exact XF_row hc.2) (by rw [gdS_len]; exact hn.2) (by omega) (fun _ => rfl) (by simp)
  have hHr := holds_ok hs hxr hfr.ks
  have hHw := holds_ok hs hxw hfw.ks
  rw [hold_gridR] at hHr
  rw [hold_gridW] at hHw
  change ACall _ _ _ _ _ (.val (.bool (fF s c n))) _ at hHr
  change ACall _ _ _ _ _ (.val (.bool (sS s c n))) _ at hHw
  have hFu := fun (j : Nat) (h : j < n) => PLift.up (full_ok (s := s) (b := j * c) (n := c) hs (by have := mul_in (r := j) h hp; omega))
  have hSo := fun (j : Nat) (h : j < n) => PLift.up (some_ok (s := s) (b := j * c) (n := c) hs (by have := mul_in (r := j) h hp; omega))
  have hjc := fun (j : Nat) (h : j ≤ n) => mul_rng2 (a := j) (b := c) (by omega) (by omega) (by omega) (by omega)
  change ∀ (j : Nat) (h : j < n), PLift (ACall _ _ _ _ _ (.val (.bool (fR s c j))) _) at hFu
  change ∀ (j : Nat) (h : j < n), PLift (ACall _ _ _ _ _ (.val (.bool (sR s c j))) _) at hSo
  push_cast at hFu hSo
  have hsr := XF_short hfr (by omega)
  have hsw := XF_short hfw (by omega)
  have hb1 := dmy_def; have hb2 := dmy_def; have hb3 := dmy_def; have hb4 := dmy_def
  clear hxr hxw hfr hfw
  refine ACall.enter Tryd.func4 rfl (by simp [Tryd.ntmps4]) (by simp) ?_
  simp only [entry, idx, Tryd.ntmps4, List.length, List.map_cons, List.map_nil, List.append_nil, List.cons_append, List.nil_append, Nat.reduceAdd, Nat.zero_add, List.length_cons, List.length_nil]
  repeat' (first | (refine AC_loop_id ?_; refine AC_loop' [0,1] ([0,1].length) (ggI s n c) (fun j => n - j.val) (⟨0, by omega⟩) rfl (by unfold ggI; (try simp only [List.cons_append, List.nil_append]); refine Sub.mk2 ?_; (simp (dsimp := false) (disch := first | exact vD | fail) only [push_cast, simprocAttr, beq_self_eq_true, hb1, hb2, hb3, hb4, fF_0, fF_s, sS_0, sS_s]); (repeat (refine aI ?_)); (first | done | (first | exact vI | fail)); done) ?_; (rintro ⟨j, hj⟩; have hjm := hjc j hj; rcases Nat.lt_or_eq_of_le hj with hjl | hjl <;> first | (have ej : n = j := hjl.symm; subst ej; rcases Bool.eq_false_or_eq_true (fF s c n) with hb1 | hb1 <;> rcases Bool.eq_false_or_eq_true (sS s c n) with hb2 | hb2 <;> (simp (dsimp := false) (disch := first | exact vD | fail) only [push_cast, simprocAttr, ggI])) | (rcases Bool.eq_false_or_eq_true (fF s c j) with hb1 | hb1 <;> rcases Bool.eq_false_or_eq_true (sS s c j) with hb2 | hb2 <;> rcases Bool.eq_false_or_eq_true (fR s c j) with hb3 | hb3 <;> rcases Bool.eq_false_or_eq_true (sR s c j) with hb4 | hb4 <;> (simp (dsimp := false) (disch := first | exact vD | fail) only [push_cast, simprocAttr, ggI])))) | (refine Nxt_id ?_; refine Nxt.mk [0,1] (⟨j + 1, by omega⟩) rfl (by unfold ggI; (try simp only [List.cons_append, List.nil_append]); refine Sub.mk2 ?_; (simp (dsimp := false) (disch := first | exact vD | fail) only [push_cast, simprocAttr, beq_self_eq_true, hb1, hb2, hb3, hb4, fF_0, fF_s, sS_0, sS_s]); (repeat (refine aI ?_)); (first | done | (first | exact vI | fail)); done) (by first | omega | (simp; done) | (simp; omega))) | (refine AC_seq ?_) | (refine AC_region_lit ?_) | ((first | refine AL_go rfl (fun K hK => ?_) | refine AL_go0 (fun K hK => ?_)); (first | refine R_callG (f := 13) [] 0 false ?_ | refine R_callG (f := 18) [] 0 false ?_ | refine R_callG (f := 19) [] 0 false ?_ | refine R_callG (f := 17) (dst := some 36) [] 0 false ?_ | refine R_callG (f := 17) (dst := some 43) [] 0 false ?_ | refine R_callG (f := 21) [] 0 false ?_ | refine R_callG (f := 22) [] 0 false ?_ | refine R_callG (f := 23) (dst := some 88) [] 0 false ?_ | refine R_callG (f := 23) (dst := some 94) [] 0 false ?_); simp (dsimp := false) (disch := first | exact vD | fail) only [push_cast, simprocAttr, beq_self_eq_true, hb1, hb2, hb3, hb4, fF_0, fF_s, sS_0, sS_s]; (repeat (refine aI ?_)); intro G hG; refine hG _ _ ?_; clear hG G; (first | refine ⟨_, _, awake_ok, ?_⟩ | refine ⟨_, _, hG, ?_⟩ | refine ⟨_, _, hR, ?_⟩ | refine ⟨_, _, same_self hsr, ?_⟩ | refine ⟨_, _, same_self hsw, ?_⟩ | refine ⟨_, _, (hFu j (by omega)).down, ?_⟩ | refine ⟨_, _, (hSo j (by omega)).down, ?_⟩ | refine ⟨_, _, hHr, ?_⟩ | refine ⟨_, _, hHw, ?_⟩); simp (dsimp := false) (disch := first | exact vD | fail) only [push_cast, simprocAttr, beq_self_eq_true, hb1, hb2, hb3, hb4, fF_0, fF_s, sS_0, sS_s]; (repeat (refine aI ?_)); (first | refine hK _ _ _ ?_ | refine hK _ _ ?_); clear hK K) | ((first | refine AL_go rfl (fun K hK => ?_) | refine AL_go0 (fun K hK => ?_)); (first | refine R_move _ ?_ | refine R_assign _ ?_ | refine Q_load _ _ ?_ | refine Q_loadAgg _ _ ?_ | refine Q_pick _ _ _ ?_ | refine Q_not _ _ ?_ | refine Q_neg _ _ ?_ | refine Q_extract _ _ ?_ | refine R_alloc _ ?_ | refine Q_store _ _ _ ?_ | refine Q_eqAgg _ _ _ _ ?_ | refine Q_neqAgg _ _ _ _ ?_ | refine Q_neqSelf _ _ _ _ ?_ | refine Q_bin _ _ _ _ _ ?_); simp (dsimp := false) (disch := first | exact vD | fail) only [push_cast, simprocAttr, beq_self_eq_true, hb1, hb2, hb3, hb4, fF_0, fF_s, sS_0, sS_s]; (repeat (refine aI ?_)); (first | refine hK _ _ _ ?_ | refine hK _ _ ?_); clear hK K) | ((first | refine AL_guard rfl rfl (fun K1 K2 h1 h2 => ?_) rfl | refine AC_cond_k (fun K1 K2 h1 h2 => ?_)); simp (dsimp := false) (disch := first | exact vD | fail) only [push_cast, simprocAttr, beq_self_eq_true, hb1, hb2, hb3, hb4, fF_0, fF_s, sS_0, sS_s]; (first | (refine ⟨fun hc => ?_, fun hc => ?_⟩ <;> first | (exfalso; omega) | (exfalso; contradiction) | refine h1 ?_ | refine h2 ?_) | refine h1 ?_ | refine h2 ?_); all_goals clear h1 h2 K1 K2) | (refine AL_nil ?_) | (refine Thn_normal ?_) | (refine Thn_ret ?_) | (refine Thn_exit ?_) | (refine Blk_normal ?_) | (refine Blk_ret ?_) | (refine Blk_here ?_) | (refine Blk_other rfl ?_) | (refine AC_block ?_) | (refine AC_exit ?_) | (refine AC_skip ?_) | (refine AC_ret ?_))
  all_goals (refine Ends.mk2 (by first | exact .inr rfl | exact .inl rfl) [] ?_; simp (dsimp := false) (disch := first | exact vD | fail) only [push_cast, simprocAttr, Tryd.f4, beq_self_eq_true]; (repeat (refine aI ?_)); try (first | exact vI | fail))
theorem grid_law (hs : s < 65536) : ACall Tryd.prog 4 [.val (.int .i64 a), .val (.int .i64 b), .val (.int .u16 s)] [] 0 (.val (.bool true)) [] := by
  by_cases h : a < 1 ∨ b < 1
  · exact grid_bad (gridE_1 h) (by decide)
  · by_cases h2 : 12 < a ∨ 12 < b ∨ 12 < a * b
    · exact grid_bad (gridE_2 h h2) (by decide)
    · obtain ⟨n, rfl⟩ := Int.eq_ofNat_of_zero_le (show 0 ≤ a by omega)
      obtain ⟨c, rfl⟩ := Int.eq_ofNat_of_zero_le (show 0 ≤ b by omega)
      refine grid_good hs (by omega) (by omega) ?_
      have : (n : Int) * c ≤ 12 := by omega
      have h3 : ((n * c : Nat) : Int) ≤ 12 := by push_cast; exact this
      omega
end Go.Proofs.YtdeligopifoceaaDoor
