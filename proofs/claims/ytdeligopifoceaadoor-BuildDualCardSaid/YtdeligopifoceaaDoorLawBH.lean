/- Build: the law of duals. No condition. -/
import Derived.Test.YtdeligopifoceaaDoorSym30
import Derived.Test.YtdeligopifoceaaDoorLawBB
import Derived.Test.YtdeligopifoceaaDoorLawBC
set_option linter.unusedVariables false
set_option linter.unusedSectionVars false
set_option linter.unusedSimpArgs false
set_option linter.unnecessarySimpa false
set_option maxHeartbeats 2000000
set_option maxRecDepth 20000
namespace Go.Proofs.YtdeligopifoceaaDoor
open Go Go.Sy Go.Bp
attribute [local irreducible] AO AL AC OpT ACall Ends DGo DRun Thn Blk Nxt
variable {s n m k : Nat} {a b : Int}
/-- The other servers. -/
def oth (s : Nat) : Nat := (65535 - s) &&& 4095
def rS (s : Nat) : Int := (oth s : Nat)
theorem oth_lt (s : Nat) : oth s < 65536 := Nat.lt_of_le_of_lt Nat.and_le_right (by decide)
theorem r_and (hs : s < 65536) : IntKind.wrap .u16 ((BitVec.ofInt (IntKind.bits .u16) (65535 - (s : Int)) &&& BitVec.ofInt (IntKind.bits .u16) (4095 : Int)).toNat : Int) = rS s := by
  have h := u_and (x := 65535 - s) (y := 4095) (by omega) (by omega)
  rw [show ((65535 - s : Nat) : Int) = 65535 - (s : Int) by omega] at h
  exact h
theorem oth_bit (hs : s < 65536) {i : Nat} (hi : i < 12) : bitI (oth s) (i : Nat) = !bitI s (i : Nat) := by
  rw [bitI_n, bitI_n]
  unfold oth
  rw [Nat.testBit_and, show 65535 - s = 2 ^ 16 - (s + 1) by omega, Nat.testBit_two_pow_sub_succ (by omega), show (4095 : Nat) = 2 ^ 12 - 1 by rfl, Nat.testBit_two_pow_sub_one]
  simp [hi, show i < 16 by omega]
theorem tree_dual (hs : s < 65536) (hk : 1 ≤ k ∧ k ≤ 3) : hold (bitI (oth s)) (treeX k) = !hold (bitI s) (treeX k) := by
  have h := fun (i : Nat) (hi : i < 12) => oth_bit hs hi
  rcases (show k = 1 ∨ k = 2 ∨ k = 3 by omega) with rfl | rfl | rfl
  · show hold _ (srv 0) = !hold _ (srv 0)
    rw [hold_srv, hold_srv]; exact h 0 (by omega)
  · show hold _ tree2 = !hold _ tree2
    rw [hold_tree2, hold_tree2, ← q3_not]
    have h0 := h 0 (by omega); have h1 := h 1 (by omega); have h2 := h 2 (by omega)
    push_cast at h0 h1 h2
    rw [h0, h1, h2]
  · show hold _ tree3 = !hold _ tree3
    rw [hold_tree3, hold_tree3, ← q3_not, ← q3_not, ← q3_not]
    have h0 := h 0 (by omega); have h1 := h 1 (by omega); have h2 := h 2 (by omega); have h3 := h 3 (by omega); have h4 := h 4 (by omega); have h5 := h 5 (by omega); have h6 := h 6 (by omega)
    push_cast at h0 h1 h2 h3 h4 h5 h6
    rw [h0, h1, h2, h3, h4, h5, h6]
theorem tree_xo (hk : 1 ≤ k ∧ k ≤ 3) : XOk (treeX k) ∧ KS (treeX k) := by
  rcases (show k = 1 ∨ k = 2 ∨ k = 3 by omega) with rfl | rfl | rfl
  · exact ⟨VOk_tree1.ok (by decide), (XF_srv 0).ks⟩
  · exact ⟨VOk_tree2.ok (by decide), (XF_t (i := 0) (j := 1) (k := 2)).ks⟩
  · exact ⟨VOk_tree3.ok (by decide), XF_tree3.ks⟩
theorem dual_go (hs : s < 65536) (ha : 0 ≤ a ∧ a ≤ 255) (hb : 0 ≤ b ∧ b ≤ 255) (hn : 1 + a % 4 = (n : Nat)) (hm : 1 + b % 3 = (m : Nat)) (hk : 1 + a % 3 = (k : Nat)) {q : Nat} (hq : a % 6 = (q : Nat)) :
    ACall Tryd.prog 8 [.val (.int .u8 a), .val (.int .u8 b), .val (.int .u16 s)] [] 0 (.val (.bool true)) [] := by
  have hp : n * m ≤ 12 := by
    have h1 : n ≤ 4 := by omega
    have h2 : m ≤ 3 := by omega
    exact Nat.le_trans (Nat.mul_le_mul h1 h2) (by decide)
  have hp2 : (n : Int) * m ≤ 12 := by have : ((n * m : Nat) : Int) ≤ 12 := (by omega); push_cast at this; exact this
  have hG := Gr_ok (a := n) (b := m)
  rw [gridE_3 (by omega) (by omega)] at hG
  unfold xxeV at hG
  dsimp only at hG
  simp only [Int.toNat_natCast, gridR_eq, gridW_eq] at hG
  have hT := Tr_ok (a := k)
  rw [show treeE (k : Int) = (treeX k, 0) by unfold treeE; rw [if_neg (by omega), Int.toNat_natCast]] at hT
  have hM := M_ok (a := 1 + 2 * q)
  rw [majE_2 (by omega), show (1 + 2 * (q : Int)).toNat = 2 * q + 1 by omega, show (1 + 2 * (q : Int)) / 2 + 1 = (q : Int) + 1 by omega] at hM
  unfold xeV at hT hM
  dsimp only at hT hM
  have hxr := (VOk_gridR hp (by omega)).ok (by rw [gridR_len]; exact grid_few hp (by omega))
  have hxw := (VOk_gridW hp (by omega)).ok (by rw [gridW_len]; exact grid_few hp (by omega))
  have hfr : XF 157 (gridR n m) := by
    rw [← gridR_eq]
    exact XF_thr (b := 13) (c := 12) (fun x hx => by obtain ⟨r, _, rfl⟩ := List.mem_map.1 hx; exact XF_row (by omega)) (by rw [gdR_len]; omega) (by omega) (fun _ => rfl) (by simp)
  have hfw : XF 157 (gridW n m) := by
    rw [← gridW_eq]
    exact XF_thr (b := 13) (c := 12) (fun x hx => by obtain ⟨r, _, rfl⟩ := List.mem_map.1 hx; exact XF_row (by omega)) (by rw [gdS_len]; omega) (by omega) (fun _ => rfl) (by simp)
  have hxm : XOk (thr ((q : Int) + 1) (servs (upTo 0 (2 * q + 1))) true []) := (VOk_maj (by omega) (by omega)).ok (by rw [maj_len]; omega)
  have hkm : KS (thr ((q : Int) + 1) (servs (upTo 0 (2 * q + 1))) true []) := (XF_thrS (by rw [upTo_ln]; omega) (fun _ => rfl) (by simp)).ks
  have hxt := tree_xo (k := k) (by omega)
  have hA := holds_ok hs hxr hfr.ks
  have hB : ACall Tryd.prog 23 [.agg (Cells.cells (gridW n m)), .val (.int .u16 (rS s))] [] 0 (.val (.bool (hold (bitI (oth s)) (gridW n m)))) [] := holds_ok (oth_lt s) hxw hfw.ks
  have hC := holds_ok hs hxt.1 hxt.2
  have hD : ACall Tryd.prog 23 [.agg (Cells.cells (treeX k)), .val (.int .u16 (rS s))] [] 0 (.val (.bool (hold (bitI (oth s)) (treeX k)))) [] := holds_ok (oth_lt s) hxt.1 hxt.2
  have hE := holds_ok hs hxm hkm
  have hF : ACall Tryd.prog 23 [.agg (Cells.cells (thr ((q : Int) + 1) (servs (upTo 0 (2 * q + 1))) true [])), .val (.int .u16 (rS s))] [] 0 (.val (.bool (hold (bitI (oth s)) (thr ((q : Int) + 1) (servs (upTo 0 (2 * q + 1))) true [])))) [] := holds_ok (oth_lt s) hxm hkm
  rw [grid_dual (bitI s) (bitI (oth s)) n m (fun i hi => oth_bit hs (by omega))] at hB
  rw [tree_dual hs (by omega)] at hD
  have ho := odd_dual (h := bitI (oth s)) (g := bitI s) (m := q) (fun i hi => by have := oth_bit hs (i := i) (by omega); rw [this]; simp)
  rw [ho] at hF
  generalize hold (bitI s) (gridR n m) = v1 at *
  generalize hold (bitI s) (treeX k) = v2 at *
  generalize hold (bitI s) (thr ((q : Int) + 1) (servs (upTo 0 (2 * q + 1))) true []) = v3 at *
  clear ho hxr hxw hfr hfw hxm hkm hxt
  refine ACall.enter Tryd.func8 rfl (by simp [Tryd.ntmps8]) (by simp) ?_
  simp only [entry, idx, Tryd.ntmps8, List.length, List.map_cons, List.map_nil, List.append_nil, List.cons_append, List.nil_append, Nat.reduceAdd, Nat.zero_add, List.length_cons, List.length_nil]
  repeat' (first | ((first | refine AL_go rfl (fun K hK => ?_) | refine AL_go0 (fun K hK => ?_)); refine Q_compl16 _ _ ?_; simp (dsimp := false) (disch := first | exact vD | fail) only [push_cast, simprocAttr, ]; (repeat (refine aI ?_)); (first | refine hK _ _ _ ?_ | refine hK _ _ ?_); clear hK K) | (refine AC_seq ?_) | (refine AC_region_lit ?_) | ((first | refine AL_go rfl (fun K hK => ?_) | refine AL_go0 (fun K hK => ?_) | refine DG_run (fun K hK => ?_)); (first | refine R_callG (f := 13) [] 0 false ?_ | refine R_callG (f := 18) [] 0 false ?_ | refine R_callG (f := 26) [] 0 false ?_ | refine R_callG (f := 33) [] 0 false ?_ | refine R_callG (f := 23) (dst := some 66) [] 0 false ?_ | refine R_callG (f := 23) (dst := some 69) [] 0 false ?_ | refine R_callG (f := 23) (dst := some 74) [] 0 false ?_ | refine R_callG (f := 23) (dst := some 77) [] 0 false ?_ | refine R_callG (f := 23) (dst := some 83) [] 0 false ?_ | refine R_callG (f := 23) (dst := some 86) [] 0 false ?_); simp (dsimp := false) (disch := first | exact vD | fail) only [push_cast, simprocAttr, hn, hm, hk, hq, r_and, Bool.bne_not_self]; (repeat (refine aI ?_)); intro G hG; refine hG _ _ ?_; clear hG G; (first | refine ⟨_, _, awake_ok, ?_⟩ | refine ⟨_, _, hG, ?_⟩ | refine ⟨_, _, hT, ?_⟩ | refine ⟨_, _, hM, ?_⟩ | refine ⟨_, _, hA, ?_⟩ | refine ⟨_, _, hB, ?_⟩ | refine ⟨_, _, hC, ?_⟩ | refine ⟨_, _, hD, ?_⟩ | refine ⟨_, _, hE, ?_⟩ | refine ⟨_, _, hF, ?_⟩); simp (dsimp := false) (disch := first | exact vD | fail) only [push_cast, simprocAttr, hn, hm, hk, hq, r_and, Bool.bne_not_self]; (repeat (refine aI ?_)); (first | refine hK _ _ _ ?_ | refine hK _ _ ?_); clear hK K) | ((first | refine AL_go rfl (fun K hK => ?_) | refine AL_go0 (fun K hK => ?_) | refine DG_run (fun K hK => ?_)); (first | refine R_move _ ?_ | refine R_assign _ ?_ | refine Q_load _ _ ?_ | refine Q_loadAgg _ _ ?_ | refine Q_pick _ _ _ ?_ | refine Q_not _ _ ?_ | refine Q_neg _ _ ?_ | refine Q_extract _ _ ?_ | refine R_alloc _ ?_ | refine Q_store _ _ _ ?_ | refine Q_convert _ _ _ ?_ | refine Q_eqAgg _ _ _ _ ?_ | refine Q_neqAgg _ _ _ _ ?_ | refine Q_neqSelf _ _ _ _ ?_ | refine Q_bin _ _ _ _ _ ?_); simp (dsimp := false) (disch := first | exact vD | fail) only [push_cast, simprocAttr, hn, hm, hk, hq, r_and, Bool.bne_not_self]; (repeat (refine aI ?_)); (first | refine hK _ _ _ ?_ | refine hK _ _ ?_); clear hK K) | ((first | refine AL_guard rfl rfl (fun K1 K2 h1 h2 => ?_) rfl | refine AC_cond_k (fun K1 K2 h1 h2 => ?_) | refine DG_guard rfl rfl (fun K1 K2 h1 h2 => ?_)); simp (dsimp := false) (disch := first | exact vD | fail) only [push_cast, simprocAttr, hn, hm, hk, hq, r_and, Bool.bne_not_self]; (first | (refine ⟨fun hc => ?_, fun hc => ?_⟩ <;> first | (exfalso; omega) | (exfalso; contradiction) | refine h1 ?_ | refine h2 ?_) | refine h1 ?_ | refine h2 ?_); all_goals clear h1 h2 K1 K2) | (refine AC_draw (id := 10) (by kernel_rfl) [⟨0, [], [65, 67, 68], [], [], 0⟩, ⟨1, [], [64, 67, 68], [], [], 0⟩, ⟨2, [0, 1], [67, 68], [], [], 0⟩, ⟨3, [], [64, 65, 66, 68], [], [], 0⟩, ⟨4, [], [64, 65, 66, 67], [], [], 0⟩, ⟨5, [0, 1, 2, 3, 4], [], [], [], 0⟩, ⟨6, [0, 1, 2, 3, 4, 5], [], [], [], 0⟩, ⟨7, [0, 1, 2, 3, 4, 5, 6], [], [], [], 0⟩, ⟨8, [0, 1, 2, 3, 4, 5, 6, 7], [73, 75, 76], [], [], 0⟩, ⟨9, [0, 1, 2, 3, 4, 5, 6, 7], [72, 75, 76], [], [], 0⟩, ⟨10, [0, 1, 2, 3, 4, 5, 6, 7, 8, 9], [75, 76], [], [], 0⟩, ⟨11, [0, 1, 2, 3, 4, 5, 6, 7], [72, 73, 74, 76], [], [], 0⟩, ⟨12, [0, 1, 2, 3, 4, 5, 6, 7], [72, 73, 74, 75], [], [], 0⟩, ⟨13, [0, 1, 2, 3, 4, 5, 6, 7, 8, 9, 10, 11, 12], [], [], [], 0⟩, ⟨14, [0, 1, 2, 3, 4, 5, 6, 7, 8, 9, 10, 11, 12, 13], [], [], [], 0⟩, ⟨15, [0, 1, 2, 3, 4, 5, 6, 7, 8, 9, 10, 11, 12, 13, 14], [], [], [], 0⟩, ⟨16, [0, 1, 2, 3, 4, 5, 6, 7, 8, 9, 10, 11, 12, 13, 14, 15], [], [], [], 0⟩, ⟨17, [0, 1, 2, 3, 4, 5, 6, 7, 8, 9, 10, 11, 12, 13, 14, 15, 16], [82, 84, 85], [], [], 0⟩, ⟨18, [0, 1, 2, 3, 4, 5, 6, 7, 8, 9, 10, 11, 12, 13, 14, 15, 16], [81, 84, 85], [], [], 0⟩, ⟨19, [0, 1, 2, 3, 4, 5, 6, 7, 8, 9, 10, 11, 12, 13, 14, 15, 16, 17, 18], [84, 85], [], [], 0⟩, ⟨20, [0, 1, 2, 3, 4, 5, 6, 7, 8, 9, 10, 11, 12, 13, 14, 15, 16], [81, 82, 83, 85], [], [], 0⟩, ⟨21, [0, 1, 2, 3, 4, 5, 6, 7, 8, 9, 10, 11, 12, 13, 14, 15, 16], [81, 82, 83, 84], [], [], 0⟩, ⟨22, [0, 1, 2, 3, 4, 5, 6, 7, 8, 9, 10, 11, 12, 13, 14, 15, 16, 17, 18, 19, 20, 21], [], [], [], 0⟩, ⟨23, [0, 1, 2, 3, 4, 5, 6, 7, 8, 9, 10, 11, 12, 13, 14, 15, 16, 17, 18, 19, 20, 21, 22], [], [], [], 0⟩, ⟨24, [0, 1, 2, 3, 4, 5, 6, 7, 8, 9, 10, 11, 12, 13, 14, 15, 16, 17, 18, 19, 20, 21, 22, 23], [], [], [], 0⟩, ⟨25, [0, 1, 2, 3, 4, 5, 6, 7, 8, 9, 10, 11, 12, 13, 14, 15, 16, 17, 18, 19, 20, 21, 22, 23, 24], [], [], [], 0⟩] (by kernel_rfl) (by kernel_rfl) (by kernel_rfl) ?_) | ((first | refine DG_next' (by kernel_rfl) (fun K hK => ?_) | refine DG_nil (by kernel_rfl) (fun K hK => ?_)); simp only [↓Go.Sy.dsnE_some, ↓Go.Sy.dsnE_none, ↓Go.Sy.dsnE_nil, ↓Go.Sy.dsnO_snoc, ↓Go.Sy.dsnO_nil, ↓Go.Sy.nidAt_snoc, ↓Go.Sy.nidAt_nil, push_cast, Nat.reduceLeDiff, Nat.reduceSub, Nat.reduceBEq, Nat.reduceEqDiff, Nat.reduceAdd, Nat.reduceLT, ↓reduceIte, reduceCtorEq]; refine hK _ _ _ ?_; clear hK K) | (refine DG_go ?_) | (refine AL_nil ?_) | (refine Thn_normal ?_) | (refine Thn_ret ?_) | (refine Thn_exit ?_) | (refine Blk_normal ?_) | (refine Blk_ret ?_) | (refine Blk_here ?_) | (refine Blk_other rfl ?_) | (refine AC_block ?_) | (refine AC_exit ?_) | (refine AC_skip ?_) | (refine AC_ret ?_))
  all_goals (refine Ends.mk2 (by first | exact .inr rfl | exact .inl rfl) [] ?_; simp (dsimp := false) (disch := first | exact vD | fail) only [push_cast, simprocAttr, Tryd.f8, beq_self_eq_true]; (repeat (refine aI ?_)); try (first | exact vI | fail))
theorem dual_law (hs : s < 65536) (ha : 0 ≤ a ∧ a ≤ 255) (hb : 0 ≤ b ∧ b ≤ 255) :
    ACall Tryd.prog 8 [.val (.int .u8 a), .val (.int .u8 b), .val (.int .u16 s)] [] 0 (.val (.bool true)) [] := by
  obtain ⟨n, hn⟩ := Int.eq_ofNat_of_zero_le (show 0 ≤ 1 + a % 4 by omega)
  obtain ⟨m, hm⟩ := Int.eq_ofNat_of_zero_le (show 0 ≤ 1 + b % 3 by omega)
  obtain ⟨k, hk⟩ := Int.eq_ofNat_of_zero_le (show 0 ≤ 1 + a % 3 by omega)
  obtain ⟨q, hq⟩ := Int.eq_ofNat_of_zero_le (show 0 ≤ a % 6 by omega)
  exact dual_go hs ha hb hn hm hk hq
end Go.Proofs.YtdeligopifoceaaDoor
