/- Build: the law of walls. No condition. -/
import Derived.Test.YtdeligopifoceaaDoorLawA0
import Derived.Test.YtdeligopifoceaaDoorBu24
import Derived.Test.YtdeligopifoceaaDoorBu29
import Derived.Test.YtdeligopifoceaaDoorBu30
import Derived.Test.YtdeligopifoceaaDoorBpA
set_option linter.unusedVariables false
set_option linter.unusedSectionVars false
set_option linter.unusedSimpArgs false
set_option linter.unnecessarySimpa false
set_option maxHeartbeats 2000000
set_option maxRecDepth 20000
namespace Go.Proofs.YtdeligopifoceaaDoor
open Go Go.Sy Go.Bp
attribute [local irreducible] AO AL AC OpT ACall Ends DGo DRun Thn Blk Nxt
variable {x y : Ex} {s n c i j m : Nat} {a b : Int} {l : List Int} {ws : List Nat} {z : Bool} {r : Ex × Int}
theorem wall_bad (h : wallE l = r) (h0 : ¬ r.2 = 0) (hsh : Short r.1) (hl : l.length = n) (hn : n < 2^47) (hz : z = true → l = []) : ACall Tryd.prog 5 [.isl z (cI .i64 l) n, .val (.int .u16 s)] [] 0 (.val (.bool true)) [] := by
  have hT := fun (h : n ≤ 20) => PLift.up (Wa_ok (z := z) hl (by omega))
  have hR := fun (h : n ≤ 20) => PLift.up (RWa_ok (z := z) hl (by omega))
  rw [h] at hT hR
  unfold xeV at hT hR
  refine ACall.enter Tryd.func5 rfl (by simp [Tryd.ntmps5]) (by simp) ?_
  simp only [entry, idx, Tryd.ntmps5, List.length, List.map_cons, List.map_nil, List.append_nil, List.cons_append, List.nil_append, Nat.reduceAdd, Nat.zero_add, List.length_cons, List.length_nil]
  repeat' (first | (refine AC_seq ?_) | (refine AC_region_lit ?_) | ((first | refine AL_go rfl (fun K hK => ?_) | refine AL_go0 (fun K hK => ?_)); (first | refine R_callG (f := 13) [] 0 false ?_ | refine R_callG (f := 15) [] 0 false ?_ | refine R_callG (f := 24) [] 0 false ?_ | refine R_callG (f := 25) [] 0 false ?_ | refine R_callG (f := 17) [] 0 false ?_); simp (dsimp := false) (disch := first | exact vD | fail) only [push_cast, simprocAttr]; (repeat (refine aI ?_)); intro G hG; refine hG _ _ ?_; clear hG G; (first | refine ⟨_, _, awake_ok, ?_⟩ | refine ⟨_, _, clone_f hl (by omega) hz, ?_⟩ | refine ⟨_, _, (hT (by omega)).down, ?_⟩ | refine ⟨_, _, (hR (by omega)).down, ?_⟩ | refine ⟨_, _, same_self hsh, ?_⟩); simp (dsimp := false) (disch := first | exact vD | fail) only [push_cast, simprocAttr]; (repeat (refine aI ?_)); (first | refine hK _ _ _ ?_ | refine hK _ _ ?_); clear hK K) | ((first | refine AL_go rfl (fun K hK => ?_) | refine AL_go0 (fun K hK => ?_)); (first | refine R_move _ ?_ | refine R_assign _ ?_ | refine Q_load _ _ ?_ | refine Q_loadAgg _ _ ?_ | refine Q_indexAddr _ _ _ ?_ | refine Q_indexArr _ _ _ ?_ | refine Q_len _ _ ?_ | refine Q_lenStr _ _ ?_ | refine Q_pick _ _ _ ?_ | refine Q_not _ _ ?_ | refine Q_neg _ _ ?_ | refine Q_extract _ _ ?_ | refine R_alloc _ ?_ | refine Q_store _ _ _ ?_ | refine Q_sliceStr _ _ _ _ ?_ | refine Q_sliceI _ _ _ _ ?_ | refine Q_eqAgg _ _ _ _ ?_ | refine Q_neqAgg _ _ _ _ ?_ | refine Q_neqSelf _ _ _ _ ?_ | refine Q_bin _ _ _ _ _ ?_); simp (dsimp := false) (disch := first | exact vD | fail) only [push_cast, simprocAttr]; (repeat (refine aI ?_)); (first | refine hK _ _ _ ?_ | refine hK _ _ ?_); clear hK K) | ((first | refine AL_go rfl (fun K hK => ?_) | refine AL_go0 (fun K hK => ?_)); (first | refine Q_slice _ _ _ _ ?_); simp (dsimp := false) (disch := first | exact vD | fail) only [push_cast, simprocAttr]; (repeat (refine aI ?_)); (first | refine hK _ _ _ ?_ | refine hK _ _ ?_); clear hK K) | ((first | refine AL_go rfl (fun K hK => ?_) | refine AL_go0 (fun K hK => ?_)); (first | refine Q_sliceEnd _ _ _ _ ?_); simp (dsimp := false) (disch := first | exact vD | fail) only [push_cast, simprocAttr]; (repeat (refine aI ?_)); (first | refine hK _ _ _ ?_ | refine hK _ _ ?_); clear hK K) | ((first | refine AL_go rfl (fun K hK => ?_) | refine AL_go0 (fun K hK => ?_)); (first | refine Q_sliceX _ _ _ _ ?_); simp (dsimp := false) (disch := first | exact vD | fail) only [push_cast, simprocAttr]; (repeat (refine aI ?_)); (first | refine hK _ _ _ ?_ | refine hK _ _ ?_); clear hK K) | ((first | refine AL_guard rfl rfl (fun K1 K2 h1 h2 => ?_) rfl | refine AC_cond_k (fun K1 K2 h1 h2 => ?_)); simp (dsimp := false) (disch := first | exact vD | fail) only [push_cast, simprocAttr]; (first | (refine ⟨fun hc => ?_, fun hc => ?_⟩ <;> first | (exfalso; omega) | (exfalso; contradiction) | refine h1 ?_ | refine h2 ?_) | refine h1 ?_ | refine h2 ?_); all_goals clear h1 h2 K1 K2) | (refine AL_nil ?_) | (refine Thn_normal ?_) | (refine Thn_ret ?_) | (refine Thn_exit ?_) | (refine Blk_normal ?_) | (refine Blk_ret ?_) | (refine Blk_here ?_) | (refine Blk_other rfl ?_) | (refine AC_block ?_) | (refine AC_exit ?_) | (refine AC_skip ?_) | (refine AC_ret ?_))
  all_goals (refine Ends.mk2 (by first | exact .inr rfl | exact .inl rfl) [] ?_; simp (dsimp := false) (disch := first | exact vD | fail) only [push_cast, simprocAttr, Tryd.f5]; (repeat (refine aI ?_)); try (first | exact vI | fail))
def fW (s : Nat) (ws : List Nat) (i : Nat) : Bool := full (bitI s) (off ws i : Nat) (wd ws i)
def sW (s : Nat) (ws : List Nat) (i : Nat) : Bool := some' (bitI s) (off ws i : Nat) (wd ws i)
def rM (s : Nat) (ws : List Nat) (i m : Nat) : Bool := fW s ws i && ((List.range m).map fun t => sW s ws (i + 1 + t)).all id
def wB (s : Nat) (ws : List Nat) (j : Nat) : Bool := ((List.range j).map fun i => rM s ws i (ws.length - (i + 1))).any id
theorem rM_0 : rM s ws i 0 = fW s ws i := by simp [rM]
theorem rM_s : rM s ws i (m + 1) = (rM s ws i m && sW s ws (i + 1 + m)) := by simp [rM, List.range_succ, Bool.and_assoc]
theorem wB_0 : wB s ws 0 = false := rfl
theorem wB_s : wB s ws (j + 1) = (wB s ws j || rM s ws j (ws.length - (j + 1))) := by simp [wB, List.range_succ]
theorem hold_wB : hold (bitI s) (oneX (kidX ws ws.length)) = wB s ws ws.length := by
  have hg : ∀ i m, ∀ x ∈ partX ws i m, Bp.Good x := fun i m x hx => by
    rcases List.mem_cons.1 hx with rfl | hx
    · exact good_all (good_servs _)
    · obtain ⟨t, _, rfl⟩ := List.mem_map.1 hx; exact good_one (good_servs _)
  rw [hold_one _ (fun x hx => by obtain ⟨i, _, rfl⟩ := List.mem_map.1 hx; exact good_all (hg _ _))]
  unfold kidX wB
  rw [List.map_map]
  congr 1
  refine List.map_congr_left (fun i _ => ?_)
  show hold (bitI s) (allX (partX ws i (ws.length - (i + 1)))) = _
  rw [hold_all _ (hg _ _)]
  unfold partX lowX rM
  rw [List.map_cons, List.all_cons, List.map_map]
  congr 1
  · exact hold_row _ _ _
  · congr 1
    refine List.map_congr_left (fun t _ => ?_)
    exact hold_rowS _ _ _
def lwI (s : Nat) (ws : List Nat) (z : Bool) (l : List Int) (n : Nat) (j : {j : Nat // j ≤ n}) : St :=
  ⟨96, 0, [(0,.isl z (cI .i64 l) n), (1,.val (.int .u16 s)), (5,.pt 0 0), (9,.val (.bool (wB s ws j.val))), (10,.val (.int .i64 (off ws j.val))), (51,.isl z (cI .i64 l) n), (52,.val (.int .i64 n)), (53,.val (.int .i64 j.val))],
   [(0, some (.cells (Cells.cells (oneX (kidX ws n))) 26))]⟩
def lwJ (s : Nat) (ws : List Nat) (z : Bool) (l : List Int) (n i : Nat) (m : {m : Nat // m ≤ n - (i + 1)}) : St :=
  ⟨96, 0, [(0,.isl z (cI .i64 l) n), (1,.val (.int .u16 s)), (5,.pt 0 0), (9,.val (.bool (wB s ws i))), (10,.val (.int .i64 (off ws (i + 1)))), (11,.val (.int .i64 i)), (13,.val (.bool (rM s ws i m.val))), (14,.val (.int .i64 (off ws (i + 1 + m.val)))), (51,.isl z (cI .i64 l) n), (52,.val (.int .i64 n)), (53,.val (.int .i64 i)),
     (69,.isl z (cI .i64 (l.drop (i + 1))) (n - (i + 1))), (70,.val (.int .i64 ((n : Int) - (i + 1)))), (71,.val (.int .i64 m.val))],
   [(0, some (.cells (Cells.cells (oneX (kidX ws n))) 26))]⟩
theorem drop_g (h : i + 1 + m < l.length) : (l.drop (i + 1)).getD m default = l.getD (i + 1 + m) default := by simp [List.getD_eq_getElem?_getD]
theorem tk_drop (hl : l.length = n) : (l.drop i).take (n - i) = l.drop i := List.take_of_length_le (by simp; omega)
theorem wall_good (hs : s < 65536) (hw : WF l ws) (hb : ws.sum ≤ 12) (h : wallE l = (oneX (kidX ws n), 0)) (hfew : (oneX (kidX ws n)).nodes.length ≤ 60) (hx2 : wallX ws = oneX (kidX ws n)) (hl : l.length = n) (hn : 0 < n) (hz : z = true → l = []) :
    ACall Tryd.prog 5 [.isl z (cI .i64 l) n, .val (.int .u16 s)] [] 0 (.val (.bool true)) [] := by
  have hwl := hw.len
  have hn12 : n ≤ 12 := by have := len_sum hw.pos; omega
  have hwd := wd_le hb
  have hT := Wa_ok (z := z) hl (by omega)
  have hR := RWa_ok (z := z) hl (by omega)
  rw [h] at hT hR
  unfold xeV at hT hR
  dsimp only at hT hR
  have hxf : XF 2000 (oneX (kidX ws n)) := (XF_thr (b := 157) (c := 12) (fun x hx => XF_kid hwd (by omega) x hx) (by rw [kidX_len]; exact hn12) (by omega) (fun _ => rfl) (by simp)).mono (by omega)
  have hsh := XF_short hxf (by omega)
  have hxo : XOk (oneX (kidX ws n)) := by
    have hv := VOk_wall hb (by omega)
    rw [hx2] at hv
    exact hv.ok hfew
  have hH := holds_ok hs hxo hxf.ks
  have he := hold_wB (s := s) (ws := ws)
  rw [hwl, hl] at he
  rw [he] at hH
  have hat := PLift.up hw.at'
  have hof := fun (j : Nat) (h : j < n) => off_s (ws := ws) (j := j) (by omega)
  have hsl := fun (j : Nat) (h : j < n) => sum_le_get (ws := ws) (j := j) (by omega)
  have hFu := fun (j : Nat) (h : j < n) => PLift.up (full_ok (s := s) (b := off ws j) (n := wd ws j) hs (by have := hsl j h; omega))
  have hSo := fun (j : Nat) (h : j < n) => PLift.up (some_ok (s := s) (b := off ws j) (n := wd ws j) hs (by have := hsl j h; omega))
  change ∀ (j : Nat) (h : j < n), PLift (ACall _ _ _ _ _ (.val (.bool (fW s ws j))) _) at hFu
  change ∀ (j : Nat) (h : j < n), PLift (ACall _ _ _ _ _ (.val (.bool (sW s ws j))) _) at hSo
  have hdl : ∀ i, (l.drop (i + 1)).length = n - (i + 1) := fun i => by simp; omega
  have hwj := dmy_def; have hos := dmy_def; have hwk := dmy_def; have hok := dmy_def; have hb1 := dmy_def; have hb2 := dmy_def; have hb3 := dmy_def; have hbe := dmy_def
  clear hw hxo hxf hx2
  refine ACall.enter Tryd.func5 rfl (by simp [Tryd.ntmps5]) (by simp) ?_
  simp only [entry, idx, Tryd.ntmps5, List.length, List.map_cons, List.map_nil, List.append_nil, List.cons_append, List.nil_append, Nat.reduceAdd, Nat.zero_add, List.length_cons, List.length_nil]
  repeat' (first | (refine AC_loop_id ?_; refine AC_loop' [0] ([0].length) (lwJ s ws z l n i) (fun m => n - m.val) (⟨0, by omega⟩) rfl (by unfold lwJ; (try simp only [List.cons_append, List.nil_append]); refine Sub.mk2 ?_; (simp (dsimp := false) (disch := first | exact vD | fail) only [push_cast, simprocAttr, beq_self_eq_true, hwj, hos, hwk, hok, hb1, hb2, hb3, hbe, hwl, hl, off_0, rM_0, rM_s, wB_0, wB_s, tk_drop]); (repeat (refine aI ?_)); (first | done | (first | exact vI | fail)); done) ?_; (rintro ⟨m, hm⟩; have hdl := hdl i; rcases Nat.lt_or_eq_of_le hm with hml | hml <;> first | (obtain ⟨hwk, hw2⟩ := hat.down (i + 1 + m) (by omega); rw [← drop_g (by omega)] at hwk; have hok := hof (i + 1 + m) (by omega); rw [show i + 1 + m + 1 = i + 1 + (m + 1) by omega] at hok; have hsk := hsl (i + 1 + m) (by omega); rcases Bool.eq_false_or_eq_true (rM s ws i m) with hb2 | hb2 <;> rcases Bool.eq_false_or_eq_true (sW s ws (i + 1 + m)) with hb3 | hb3 <;> (simp (dsimp := false) (disch := first | exact vD | fail) only [push_cast, simprocAttr, lwJ])) | (have hmm := hml.symm; rcases Bool.eq_false_or_eq_true (rM s ws i m) with hb2 | hb2 <;> (simp (dsimp := false) (disch := first | exact vD | fail) only [push_cast, simprocAttr, lwJ])))) | (refine Nxt_id ?_; refine Nxt.mk [0] (⟨m + 1, by omega⟩) rfl (by unfold lwJ; (try simp only [List.cons_append, List.nil_append]); refine Sub.mk2 ?_; (simp (dsimp := false) (disch := first | exact vD | fail) only [push_cast, simprocAttr, beq_self_eq_true, hwj, hos, hwk, hok, hb1, hb2, hb3, hbe, hwl, hl, off_0, rM_0, rM_s, wB_0, wB_s, tk_drop]); (repeat (refine aI ?_)); (first | done | (first | exact vI | fail)); done) (by first | omega | (simp; done) | (simp; omega))) | (refine AC_loop_id ?_; refine AC_loop' [0] ([0].length) (lwI s ws z l n) (fun j => n - j.val) (⟨0, by omega⟩) rfl (by unfold lwI; (try simp only [List.cons_append, List.nil_append]); refine Sub.mk2 ?_; (simp (dsimp := false) (disch := first | exact vD | fail) only [push_cast, simprocAttr, beq_self_eq_true, hwj, hos, hwk, hok, hb1, hb2, hb3, hbe, hwl, hl, off_0, rM_0, rM_s, wB_0, wB_s, tk_drop]); (repeat (refine aI ?_)); (first | done | (first | exact vI | fail)); done) ?_; (rintro ⟨i, hi⟩; rcases Nat.lt_or_eq_of_le hi with hil | hil <;> first | (have ei : n = i := hil.symm; subst ei; rcases Bool.eq_false_or_eq_true (wB s ws n) with hb1 | hb1 <;> (simp (dsimp := false) (disch := first | exact vD | fail) only [push_cast, simprocAttr, lwI])) | (obtain ⟨hwj, hw1⟩ := hat.down i (by omega); have hos := hof i hil; have hsj := hsl i hil; rcases Bool.eq_false_or_eq_true (wB s ws i) with hb1 | hb1 <;> (simp (dsimp := false) (disch := first | exact vD | fail) only [push_cast, simprocAttr, lwI])))) | (refine Nxt_id ?_; refine Nxt.mk [0] (⟨i + 1, by omega⟩) rfl (by unfold lwI; (try simp only [List.cons_append, List.nil_append]); refine Sub.mk2 ?_; (simp (dsimp := false) (disch := first | exact vD | fail) only [push_cast, simprocAttr, beq_self_eq_true, hwj, hos, hwk, hok, hb1, hb2, hb3, hbe, hwl, hl, off_0, rM_0, rM_s, wB_0, wB_s, tk_drop, hmm]); (repeat (refine aI ?_)); (first | done | (first | exact vI | fail)); done) (by first | omega | (simp; done) | (simp; omega))) | (refine AC_seq ?_) | (refine AC_region_lit ?_) | ((first | refine AL_go rfl (fun K hK => ?_) | refine AL_go0 (fun K hK => ?_)); (first | refine R_callG (f := 13) [] 0 false ?_ | refine R_callG (f := 15) [] 0 false ?_ | refine R_callG (f := 24) [] 0 false ?_ | refine R_callG (f := 25) [] 0 false ?_ | refine R_callG (f := 17) [] 0 false ?_ | refine R_callG (f := 21) [] 0 false ?_ | refine R_callG (f := 22) [] 0 false ?_ | refine R_callG (f := 23) [] 0 false ?_); simp (dsimp := false) (disch := first | exact vD | fail) only [push_cast, simprocAttr, beq_self_eq_true, hwj, hos, hwk, hok, hb1, hb2, hb3, hbe, hwl, hl, off_0, rM_0, rM_s, wB_0, wB_s, tk_drop]; (repeat (refine aI ?_)); intro G hG; refine hG _ _ ?_; clear hG G; (first | refine ⟨_, _, awake_ok, ?_⟩ | refine ⟨_, _, clone_f hl (by omega) hz, ?_⟩ | refine ⟨_, _, hT, ?_⟩ | refine ⟨_, _, hR, ?_⟩ | refine ⟨_, _, same_self hsh, ?_⟩ | refine ⟨_, _, (hFu i (by omega)).down, ?_⟩ | refine ⟨_, _, (hSo (i + 1 + m) (by omega)).down, ?_⟩ | refine ⟨_, _, hH, ?_⟩); simp (dsimp := false) (disch := first | exact vD | fail) only [push_cast, simprocAttr, beq_self_eq_true, hwj, hos, hwk, hok, hb1, hb2, hb3, hbe, hwl, hl, off_0, rM_0, rM_s, wB_0, wB_s, tk_drop]; (repeat (refine aI ?_)); (first | refine hK _ _ _ ?_ | refine hK _ _ ?_); clear hK K) | ((first | refine AL_go rfl (fun K hK => ?_) | refine AL_go0 (fun K hK => ?_)); (first | refine R_move _ ?_ | refine R_assign _ ?_ | refine Q_load _ _ ?_ | refine Q_loadAgg _ _ ?_ | refine Q_indexAddr _ _ _ ?_ | refine Q_indexArr _ _ _ ?_ | refine Q_len _ _ ?_ | refine Q_lenStr _ _ ?_ | refine Q_pick _ _ _ ?_ | refine Q_not _ _ ?_ | refine Q_neg _ _ ?_ | refine Q_extract _ _ ?_ | refine R_alloc _ ?_ | refine Q_store _ _ _ ?_ | refine Q_sliceStr _ _ _ _ ?_ | refine Q_sliceI _ _ _ _ ?_ | refine Q_eqAgg _ _ _ _ ?_ | refine Q_neqAgg _ _ _ _ ?_ | refine Q_neqSelf _ _ _ _ ?_ | refine Q_bin _ _ _ _ _ ?_); simp (dsimp := false) (disch := first | exact vD | fail) only [push_cast, simprocAttr, beq_self_eq_true, hwj, hos, hwk, hok, hb1, hb2, hb3, hbe, hwl, hl, off_0, rM_0, rM_s, wB_0, wB_s, tk_drop]; (repeat (refine aI ?_)); (first | refine hK _ _ _ ?_ | refine hK _ _ ?_); clear hK K) | ((first | refine AL_go rfl (fun K hK => ?_) | refine AL_go0 (fun K hK => ?_)); (first | refine Q_slice _ _ _ _ ?_); simp (dsimp := false) (disch := first | exact vD | fail) only [push_cast, simprocAttr, beq_self_eq_true, hwj, hos, hwk, hok, hb1, hb2, hb3, hbe, hwl, hl, off_0, rM_0, rM_s, wB_0, wB_s, tk_drop]; (repeat (refine aI ?_)); (first | refine hK _ _ _ ?_ | refine hK _ _ ?_); clear hK K) | ((first | refine AL_go rfl (fun K hK => ?_) | refine AL_go0 (fun K hK => ?_)); (first | refine Q_sliceEnd _ _ _ _ ?_); simp (dsimp := false) (disch := first | exact vD | fail) only [push_cast, simprocAttr, beq_self_eq_true, hwj, hos, hwk, hok, hb1, hb2, hb3, hbe, hwl, hl, off_0, rM_0, rM_s, wB_0, wB_s, tk_drop]; (repeat (refine aI ?_)); (first | refine hK _ _ _ ?_ | refine hK _ _ ?_); clear hK K) | ((first | refine AL_go rfl (fun K hK => ?_) | refine AL_go0 (fun K hK => ?_)); (first | refine Q_sliceX _ _ _ _ ?_); simp (dsimp := false) (disch := first | exact vD | fail) only [push_cast, simprocAttr, beq_self_eq_true, hwj, hos, hwk, hok, hb1, hb2, hb3, hbe, hwl, hl, off_0, rM_0, rM_s, wB_0, wB_s, tk_drop]; (repeat (refine aI ?_)); (first | refine hK _ _ _ ?_ | refine hK _ _ ?_); clear hK K) | ((first | refine AL_guard rfl rfl (fun K1 K2 h1 h2 => ?_) rfl | refine AC_cond_k (fun K1 K2 h1 h2 => ?_)); simp (dsimp := false) (disch := first | exact vD | fail) only [push_cast, simprocAttr, beq_self_eq_true, hwj, hos, hwk, hok, hb1, hb2, hb3, hbe, hwl, hl, off_0, rM_0, rM_s, wB_0, wB_s, tk_drop]; (first | (refine ⟨fun hc => ?_, fun hc => ?_⟩ <;> first | (exfalso; omega) | (exfalso; contradiction) | refine h1 ?_ | refine h2 ?_) | refine h1 ?_ | refine h2 ?_); all_goals clear h1 h2 K1 K2) | (refine AL_nil ?_) | (refine Thn_normal ?_) | (refine Thn_ret ?_) | (refine Thn_exit ?_) | (refine Blk_normal ?_) | (refine Blk_ret ?_) | (refine Blk_here ?_) | (refine Blk_other rfl ?_) | (refine AC_block ?_) | (refine AC_exit ?_) | (refine AC_skip ?_) | (refine AC_ret ?_))
  all_goals first
    | ((refine Ends.mk2 (by first | exact .inr rfl | exact .inl rfl) [] ?_; simp (dsimp := false) (disch := first | exact vD | fail) only [push_cast, simprocAttr, Tryd.f5, beq_self_eq_true]; (repeat (refine aI ?_)); try (first | exact vI | fail)); done)
theorem wall_law (hs : s < 65536) (hl : l.length = n) (hn : n < 2^47) (hz : z = true → l = []) : ACall Tryd.prog 5 [.isl z (cI .i64 l) n, .val (.int .u16 s)] [] 0 (.val (.bool true)) [] := by
  by_cases h : l.length = 0
  · exact wall_bad (wallE_1 h) (by decide) short_dflt hl hn hz
  · rcases Bool.eq_false_or_eq_true (l.any negB) with hg | hg
    · exact wall_bad (wallE_2 h hg) (by decide) short_dflt hl hn hz
    · by_cases hb : 12 < (toW l).sum
      · exact wall_bad (wallE_3 h hg hb) (by decide) short_dflt hl hn hz
      · by_cases h4 : 60 < (wallX (toW l)).nodes.length
        · exact wall_bad (wallE_4 h hg hb h4) (by decide) short_dflt hl hn hz
        · have e := wallE_5 h hg hb h4
          have hwx : wallX (toW l) = oneX (kidX (toW l) n) := by unfold wallX; rw [wall_kid, toW_len, hl]
          rw [hwx] at e h4
          exact wall_good hs (WF_of hg) (by omega) e (by omega) hwx hl (by omega) hz
end Go.Proofs.YtdeligopifoceaaDoor
