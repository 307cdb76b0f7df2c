/- Build: sets that meet. No condition. -/
import Derived.Test.YtdeligopifoceaaDoorLawBD
set_option linter.unusedVariables false
set_option linter.unusedSectionVars false
set_option linter.unusedSimpArgs false
set_option linter.unnecessarySimpa false
set_option maxHeartbeats 2000000
set_option maxRecDepth 20000
namespace Go.Proofs.YtdeligopifoceaaDoor
open Go Go.Sy Go.Bp
attribute [local irreducible] AO AL AC OpT ACall Ends DGo DRun Thn Blk Nxt
variable {x : Ex} {s t n c i j m : Nat} {a b e least : Int} {l : List Int} {ws : List Nat} {z : Bool}
def aN (s t : Nat) : Int := ((s &&& t : Nat) : Int)
def aM (s t : Nat) : Int := ((s &&& t &&& 4095 : Nat) : Int)
theorem and_lt (hs : s < 65536) : s &&& t < 65536 := Nat.lt_of_le_of_lt Nat.and_le_left hs
theorem a_and (hs : s < 65536) (ht : t < 65536) : IntKind.wrap .u16 ((BitVec.ofInt (IntKind.bits .u16) (s : Int) &&& BitVec.ofInt (IntKind.bits .u16) (t : Int)).toNat : Int) = aN s t := u_and hs ht
theorem a_and2 (hs : s < 65536) : IntKind.wrap .u16 ((BitVec.ofInt (IntKind.bits .u16) (aN s t) &&& BitVec.ofInt (IntKind.bits .u16) (4095 : Int)).toNat : Int) = aM s t := u_and (y := 4095) (and_lt hs) (by omega)
theorem bit_m : bitI (s &&& t &&& 4095) (i : Nat) = (s.testBit i && t.testBit i && decide (i < 12)) := by
  rw [bitI_n, Nat.testBit_and, Nat.testBit_and, show (4095 : Nat) = 2 ^ 12 - 1 by rfl, Nat.testBit_two_pow_sub_one]
theorem comm_le : comm (bitI s) (bitI t) 12 ≤ memL (s &&& t &&& 4095) 16 := by
  rw [memL_cnt]
  refine Nat.le_trans (Nat.le_of_eq ?_) (cnt_mono (n := 12) (m := 16) (by omega) (bitI (s &&& t &&& 4095)))
  unfold comm
  congr 1
  refine List.map_congr_left (fun y hy => ?_)
  obtain ⟨k, hk, rfl⟩ := List.mem_map.1 hy
  have := List.mem_range.1 hk
  rw [Int.zero_add, bit_m, bitI_n, bitI_n, decide_eq_true this, Bool.and_true]
theorem meet_e (he : ¬ e = 0) : ACall Tryd.prog 38 [.agg (Cells.cells x), .val (.int .i64 e), .val (.int .i64 least), .ipt [.val (.int .u16 s)] 0, .ipt [.val (.int .u16 t)] 0] [] 0 (.val (.bool true)) [] := by
  refine ACall.enter Tryd.func38 rfl (by simp [Tryd.ntmps38]) (by simp) ?_
  simp only [entry, idx, Tryd.ntmps38, List.length, List.map_cons, List.map_nil, List.append_nil, List.cons_append, List.nil_append, Nat.reduceAdd, Nat.zero_add, List.length_cons, List.length_nil]
  repeat' (first | (refine AC_seq ?_) | (refine AC_region_lit ?_) | ((first | refine AL_go rfl (fun K hK => ?_) | refine AL_go0 (fun K hK => ?_)); (first | refine R_move _ ?_ | refine R_assign _ ?_ | refine Q_load _ _ ?_ | refine Q_loadAgg _ _ ?_ | refine Q_pick _ _ _ ?_ | refine Q_not _ _ ?_ | refine Q_neg _ _ ?_ | refine Q_box _ _ ?_ | refine Q_eqAgg _ _ _ _ ?_ | refine Q_neqAgg _ _ _ _ ?_ | refine Q_neqSelf _ _ _ _ ?_ | refine Q_bin _ _ _ _ _ ?_); simp (dsimp := false) (disch := first | exact vD | fail) only [push_cast, simprocAttr]; (repeat (refine aI ?_)); (first | refine hK _ _ _ ?_ | refine hK _ _ ?_); clear hK K) | ((first | refine AL_guard rfl rfl (fun K1 K2 h1 h2 => ?_) rfl | refine AC_cond_k (fun K1 K2 h1 h2 => ?_)); simp (dsimp := false) (disch := first | exact vD | fail) only [push_cast, simprocAttr]; (first | (refine ⟨fun hc => ?_, fun hc => ?_⟩ <;> first | (exfalso; omega) | (exfalso; contradiction) | refine h1 ?_ | refine h2 ?_) | refine h1 ?_ | refine h2 ?_); all_goals clear h1 h2 K1 K2) | (refine AL_nil ?_) | (refine Thn_normal ?_) | (refine Thn_ret ?_) | (refine Thn_exit ?_) | (refine Blk_normal ?_) | (refine Blk_ret ?_) | (refine Blk_here ?_) | (refine Blk_other rfl ?_) | (refine AC_block ?_) | (refine AC_exit ?_) | (refine AC_skip ?_) | (refine AC_ret ?_))
  all_goals (refine Ends.mk2 (by first | exact .inr rfl | exact .inl rfl) [] ?_; simp (dsimp := false) (disch := first | exact vD | fail) only [push_cast, simprocAttr, Tryd.f38]; (repeat (refine aI ?_)); try (first | exact vI | fail))
theorem meet_0 (hs : s < 65536) (ht : t < 65536) (hx : XOk x) (hk : KS x) (h : hold (bitI s) x = true → hold (bitI t) x = true → least ≤ (memL (s &&& t &&& 4095) 16 : Nat)) :
    ACall Tryd.prog 38 [.agg (Cells.cells x), .val (.int .i64 0), .val (.int .i64 least), .ipt [.val (.int .u16 s)] 0, .ipt [.val (.int .u16 t)] 0] [] 0 (.val (.bool true)) [] := by
  have hH1 := holds_ok hs hx hk
  have hH2 := holds_ok ht hx hk
  have hC : ACall Tryd.prog 39 [.val (.int .u16 (aM s t))] [] 0 (.val (.int .i64 (memL (s &&& t &&& 4095) 16))) [] := count_ok (s := s &&& t &&& 4095) (and_lt (and_lt hs))
  generalize hold (bitI s) x = v1 at *
  generalize hold (bitI t) x = v2 at *
  generalize memL (s &&& t &&& 4095) 16 = mm at *
  cases v1 <;> cases v2
  all_goals (try (have hle := h rfl rfl))
  all_goals refine ACall.enter Tryd.func38 rfl (by simp [Tryd.ntmps38]) (by simp) ?_
  simp only [entry, idx, Tryd.ntmps38, List.length, List.map_cons, List.map_nil, List.append_nil, List.cons_append, List.nil_append, Nat.reduceAdd, Nat.zero_add, List.length_cons, List.length_nil]
  all_goals (repeat' (first | (refine AC_seq ?_) | (refine AC_region_lit ?_) | ((first | refine AL_go rfl (fun K hK => ?_) | refine AL_go0 (fun K hK => ?_)); (first | refine R_callG (f := 23) (dst := some 14) [] 0 false ?_ | refine R_callG (f := 23) (dst := some 20) [] 0 false ?_ | refine R_callG (f := 39) [] 0 false ?_); simp (dsimp := false) (disch := first | exact vD | fail) only [push_cast, simprocAttr, a_and, a_and2]; (repeat (refine aI ?_)); intro G hG; refine hG _ _ ?_; clear hG G; (first | refine ⟨_, _, hH1, ?_⟩ | refine ⟨_, _, hH2, ?_⟩ | refine ⟨_, _, hC, ?_⟩); simp (dsimp := false) (disch := first | exact vD | fail) only [push_cast, simprocAttr, a_and, a_and2]; (repeat (refine aI ?_)); (first | refine hK _ _ _ ?_ | refine hK _ _ ?_); clear hK K) | ((first | refine AL_go rfl (fun K hK => ?_) | refine AL_go0 (fun K hK => ?_)); (first | refine R_move _ ?_ | refine R_assign _ ?_ | refine Q_load _ _ ?_ | refine Q_loadAgg _ _ ?_ | refine Q_pick _ _ _ ?_ | refine Q_not _ _ ?_ | refine Q_neg _ _ ?_ | refine Q_box _ _ ?_ | refine Q_eqAgg _ _ _ _ ?_ | refine Q_neqAgg _ _ _ _ ?_ | refine Q_neqSelf _ _ _ _ ?_ | refine Q_bin _ _ _ _ _ ?_); simp (dsimp := false) (disch := first | exact vD | fail) only [push_cast, simprocAttr, a_and, a_and2]; (repeat (refine aI ?_)); (first | refine hK _ _ _ ?_ | refine hK _ _ ?_); clear hK K) | ((first | refine AL_guard rfl rfl (fun K1 K2 h1 h2 => ?_) rfl | refine AC_cond_k (fun K1 K2 h1 h2 => ?_)); simp (dsimp := false) (disch := first | exact vD | fail) only [push_cast, simprocAttr, a_and, a_and2]; (first | (refine ⟨fun hc => ?_, fun hc => ?_⟩ <;> first | (exfalso; omega) | (exfalso; contradiction) | refine h1 ?_ | refine h2 ?_) | refine h1 ?_ | refine h2 ?_); all_goals clear h1 h2 K1 K2) | (refine AL_nil ?_) | (refine Thn_normal ?_) | (refine Thn_ret ?_) | (refine Thn_exit ?_) | (refine Blk_normal ?_) | (refine Blk_ret ?_) | (refine Blk_here ?_) | (refine Blk_other rfl ?_) | (refine AC_block ?_) | (refine AC_exit ?_) | (refine AC_skip ?_) | (refine AC_ret ?_)))
  all_goals first
    | (have e := decide_eq_true hle; (refine Ends.mk2 (by first | exact .inr rfl | exact .inl rfl) [] ?_; simp (dsimp := false) (disch := first | exact vD | fail) only [push_cast, simprocAttr, Tryd.f38, e]; (repeat (refine aI ?_)); try (first | exact vI | fail)); done)
    | ((refine Ends.mk2 (by first | exact .inr rfl | exact .inl rfl) [] ?_; simp (dsimp := false) (disch := first | exact vD | fail) only [push_cast, simprocAttr, Tryd.f38]; (repeat (refine aI ?_)); try (first | exact vI | fail)); done)
/-- An expression and an error: two sets that satisfy it meet. -/
def Meets (s t : Nat) (least : Int) (r : Ex × Int) : Prop := r.2 = 0 → XOk r.1 ∧ KS r.1 ∧ (hold (bitI s) r.1 = true → hold (bitI t) r.1 = true → least ≤ (memL (s &&& t &&& 4095) 16 : Nat))
theorem meet_ok {r : Ex × Int} (hs : s < 65536) (ht : t < 65536) (h : Meets s t least r) :
    ACall Tryd.prog 38 [.agg (Cells.cells r.1), .val (.int .i64 r.2), .val (.int .i64 least), .ipt [.val (.int .u16 s)] 0, .ipt [.val (.int .u16 t)] 0] [] 0 (.val (.bool true)) [] := by
  by_cases he : r.2 = 0
  · obtain ⟨h1, h2, h3⟩ := h he
    rw [he]; exact meet_0 hs ht h1 h2 h3
  · exact meet_e he
theorem KS_thrS {need : Int} {l : List Int} (h : l.length ≤ 1000) : KS (thr need (servs l) true []) := (XF_thrS h (fun _ => rfl) (by simp)).ks
theorem meets_maj {r : Int} (h0 : 0 ≤ r) (h : r < 12) : Meets s t 1 (majE (1 + r)) := by
  obtain ⟨k, rfl⟩ := Int.eq_ofNat_of_zero_le h0
  rw [majE_2 (by omega), show (1 + (k : Int)).toNat = 1 + k by omega]
  intro _
  dsimp only
  refine ⟨(VOk_maj (by omega) (by omega)).ok (by rw [maj_len]; omega), KS_thrS (by rw [upTo_ln]; omega), fun h1 h2 => ?_⟩
  have h3 := thr_meet (n := 1 + k) (by omega) h1 h2
  have h4 := comm_le (s := s) (t := t)
  omega
theorem meets_byz {r f : Int} (h0 : 0 ≤ r) (h : r < 12) (hf : 0 ≤ f ∧ f < 4) : Meets s t (1 + f) (byzE (1 + r) f) := by
  obtain ⟨k, rfl⟩ := Int.eq_ofNat_of_zero_le h0
  by_cases hc : (1 + (k : Int) - 1) / 3 < f
  · rw [byzE_2 (by omega) hc]; intro h; cases h
  · rw [byzE_3 (by omega) hc, show (1 + (k : Int)).toNat = 1 + k by omega]
    intro _
    dsimp only
    refine ⟨(VOk_maj (by omega) (by omega)).ok (by rw [maj_len]; omega), KS_thrS (by rw [upTo_ln]; omega), fun h1 h2 => ?_⟩
    have h3 := thr_meet (n := 1 + k) (by omega) h1 h2
    have h4 := comm_le (s := s) (t := t)
    omega
theorem one_mem {i : Nat} (hi : i < 12) (h1 : bitI s i = true) (h2 : bitI t i = true) : 1 ≤ memL (s &&& t &&& 4095) 16 := Nat.le_trans (comm_pos hi h1 h2) comm_le
theorem meets_tree {r : Int} (h0 : 0 ≤ r) (h : r < 3) : Meets s t 1 (treeE (1 + r)) := by
  rcases (show r = 0 ∨ r = 1 ∨ r = 2 by omega) with rfl | rfl | rfl
  · intro _
    refine ⟨VOk_tree1.ok (by decide), (XF_srv 0).ks, fun h1 h2 => ?_⟩
    change hold (bitI s) (srv 0) = true at h1
    change hold (bitI t) (srv 0) = true at h2
    rw [hold_srv] at h1 h2
    have := one_mem (s := s) (t := t) (i := 0) (by omega) h1 h2; omega
  · intro _
    refine ⟨VOk_tree2.ok (by decide), (XF_t (i := 0) (j := 1) (k := 2)).ks, fun h1 h2 => ?_⟩
    obtain ⟨i, hi, a1, a2⟩ := tree2_meet h1 h2
    have := one_mem (s := s) (t := t) (i := i) (by omega) a1 a2; omega
  · intro _
    refine ⟨VOk_tree3.ok (by decide), XF_tree3.ks, fun h1 h2 => ?_⟩
    obtain ⟨i, hi, a1, a2⟩ := tree3_meet h1 h2
    have := one_mem (s := s) (t := t) (i := i) (by omega) a1 a2; omega
theorem meets_wall : Meets s t 1 (wallE l) := by
  by_cases h : l.length = 0
  · rw [wallE_1 h]; intro h; cases h
  · rcases Bool.eq_false_or_eq_true (l.any negB) with hg | hg
    · rw [wallE_2 h hg]; intro h; cases h
    · by_cases hb : 12 < (toW l).sum
      · rw [wallE_3 h hg hb]; intro h; cases h
      · by_cases h4 : 60 < (wallX (toW l)).nodes.length
        · rw [wallE_4 h hg hb h4]; intro h; cases h
        · rw [wallE_5 h hg hb h4]
          intro _
          dsimp only
          have hw := WF_of hg
          generalize toW l = ws at *
          have hwl := hw.len
          have hn12 : ws.length ≤ 12 := by have := len_sum hw.pos; omega
          have hwd := wd_le (show ws.sum ≤ 12 by omega)
          have hwx : wallX ws = oneX (kidX ws ws.length) := by unfold wallX; rw [wall_kid]
          refine ⟨(VOk_wall (by omega) (by omega)).ok (by omega), ?_, fun h1 h2 => ?_⟩
          · rw [hwx]
            exact (XF_thr (b := 157) (c := 12) (need := 1) (wz := true) (w := []) (fun x hx => XF_kid hwd hn12 x hx) (by rw [kidX_len]; exact hn12) (by omega) (fun _ => rfl) (by simp)).ks
          · rw [hold_wall] at h1 h2
            obtain ⟨i, _, hi, a1, a2⟩ := wall_meet hw.pos h1 h2
            have := one_mem (s := s) (t := t) (i := i) (by omega) a1 a2; omega
end Go.Proofs.YtdeligopifoceaaDoor
