/- Diagrams: the program's widen. No condition. -/
import Derived.Test.YtabafldpnkjboaaDoorDi7
import Derived.Test.YtabafldpnkjboaaDoorDgA
set_option linter.unusedVariables false
set_option linter.unusedSectionVars false
set_option linter.unusedSimpArgs false
set_option maxHeartbeats 4000000
set_option maxRecDepth 20000
namespace Go.Proofs.YtabafldpnkjboaaDoor
open Go Go.Sy Go.Dg
attribute [local irreducible] AO AL AC OpT ACall Ends DGo DRun Thn Blk Nxt
def NI (l : List Nat) : List Int := l.map fun (x : Nat) => (x : Int)
def tabN (m : Nat) (f : Nat → Nat) : List Nat := (List.range m).map f
variable {W a l : List Nat} {n N M L k i m r j w x c d : Nat} {f g : Nat → Nat}
theorem NI_len : (NI l).length = l.length := by simp [NI]
theorem tabN_len : (tabN m f).length = m := by simp [tabN]
theorem NI_at (h : j < l.length) : (NI l).getD j default = ((l.getD j 0 : Nat) : Int) := by
  simp [NI, List.getD_eq_getElem?_getD, List.getElem?_eq_getElem h]
theorem tabN_at (h : j < m) : (tabN m f).getD j 0 = f j := by
  simp [tabN, List.getD_eq_getElem?_getD, List.getElem?_range h]
theorem NI_tab (h : j < m) : (NI (tabN m f)).getD j default = ((f j : Nat) : Int) := by rw [NI_at (by rw [tabN_len]; exact h), tabN_at h]
theorem tab_set {v : Int} (hj : j < m) (hg : v = (g j : Nat)) (h : ∀ k, k < m → k ≠ j → g k = f k) : (cI .i64 (NI (tabN m f))).set j (.val (.int .i64 v)) = cI .i64 (NI (tabN m g)) := by
  subst hg
  unfold cI NI tabN
  rw [List.map_map, List.map_map, List.map_map, List.map_map]
  apply List.ext_getElem (by simp)
  intro q h1 h2
  rw [List.getElem_set]
  simp only [List.getElem_map, List.getElem_range, Function.comp]
  by_cases e : j = q
  · rw [if_pos e, e]
  · rw [if_neg e, h q (by simpa using h2) (fun e' => e e'.symm)]
theorem tab_zero (h : ∀ k, k < m → f k = 0) : List.replicate m (0 : Int) = NI (tabN m f) := by
  symm
  unfold NI tabN
  rw [List.map_map, List.eq_replicate_iff]
  refine ⟨by simp, fun b hb => ?_⟩
  obtain ⟨q, hq, rfl⟩ := List.mem_map.1 hb
  simp [Function.comp, h q (List.mem_range.1 hq)]
theorem tab_ext (hl : l.length = m) (h : ∀ k, k < m → f k = l.getD k 0) : tabN m f = l := by
  unfold tabN
  apply List.ext_getElem (by simp [hl])
  intro q h1 h2
  rw [List.getElem_map, List.getElem_range, h q (by omega), List.getD_eq_getElem?_getD, List.getElem?_eq_getElem h2]; rfl
theorem getD_out (h : l.length ≤ k) : l.getD k 0 = 0 := by rw [List.getD_eq_getElem?_getD, List.getElem?_eq_none h]; rfl
def fw (W : List Nat) (j k : Nat) : Nat := (if k < j then W.getD k 0 else 0) + (if 0 < k ∧ k - 1 < j then W.getD (k - 1) 0 else 0)
def gw (W : List Nat) (j k : Nat) : Nat := (if k < j + 1 then W.getD k 0 else 0) + (if 0 < k ∧ k - 1 < j then W.getD (k - 1) 0 else 0)
theorem fw_s1 : gw W j j = fw W j j + W.getD j 0 := by
  unfold gw fw
  rw [if_neg (Nat.lt_irrefl j), if_pos (Nat.lt_succ_self j)]; omega
theorem fw_s1' {q : Nat} (h : q ≠ j) : gw W j q = fw W j q := by
  unfold gw fw
  by_cases e : q < j
  · rw [if_pos e, if_pos (show q < j + 1 by omega)]
  · rw [if_neg e, if_neg (show ¬ q < j + 1 by omega)]
theorem fw_s2 : fw W (j + 1) (j + 1) = gw W j (j + 1) + W.getD j 0 := by
  unfold gw fw
  rw [if_neg (Nat.lt_irrefl (j + 1)), if_pos (show 0 < j + 1 ∧ j + 1 - 1 < j + 1 by omega), if_neg (show ¬ (0 < j + 1 ∧ j + 1 - 1 < j) by omega), Nat.add_sub_cancel, Nat.add_zero, Nat.add_comm]
theorem fw_s2' {q : Nat} (h : q ≠ j + 1) : fw W (j + 1) q = gw W j q := by
  unfold gw fw
  congr 1
  by_cases e : 0 < q ∧ q - 1 < j
  · rw [if_pos e, if_pos (show 0 < q ∧ q - 1 < j + 1 by omega)]
  · rw [if_neg e, if_neg (show ¬ (0 < q ∧ q - 1 < j + 1) by omega)]
theorem fw_end (hW : W.length = M) : tabN (M + 1) (fw W M) = wid W := by
  refine tab_ext (by rw [wid_len, hW]) fun k hk => ?_
  unfold wid
  rw [addL_at (by simp), app0_at]
  unfold fw
  cases k with
  | zero =>
    rw [if_neg (show ¬ (0 < 0 ∧ 0 - 1 < M) by omega), List.getD_cons_zero]
    by_cases h : 0 < M
    · rw [if_pos h]
    · rw [if_neg h, getD_out (show W.length ≤ 0 by omega)]
  | succ k =>
    rw [if_pos (show 0 < k + 1 ∧ k + 1 - 1 < M by omega), Nat.add_sub_cancel, List.getD_cons_succ]
    by_cases h : k + 1 < M
    · rw [if_pos h]
    · rw [if_neg h, getD_out (show W.length ≤ k + 1 by omega)]
theorem widN_len : (widN k a).length = a.length + k := by
  induction k with
  | zero => rfl
  | succ k ih => rw [widN_s, wid_len, ih]; omega
theorem wid_le {B : Nat} (h : ∀ k, W.getD k 0 ≤ B) : ∀ k, (wid W).getD k 0 ≤ 2 * B := fun k => by
  unfold wid
  rw [addL_at (by simp), app0_at]
  cases k with
  | zero => have := h 0; rw [List.getD_cons_zero]; omega
  | succ k => have := h k; have := h (k + 1); rw [List.getD_cons_succ]; omega
theorem widN_le {B : Nat} (h : ∀ k, a.getD k 0 ≤ B) : ∀ i k, (widN i a).getD k 0 ≤ 2 ^ i * B := fun i => by
  induction i with
  | zero => intro k; have := h k; rw [Nat.pow_zero, Nat.one_mul]; exact this
  | succ i ih =>
    intro k
    rw [widN_s, Nat.pow_succ, Nat.mul_comm (2 ^ i) 2, Nat.mul_assoc]
    exact wid_le ih k
theorem widN_0 : widN 0 a = a := rfl
def wdI (a : List Nat) (L k : Nat) (i : {i : Nat // i ≤ k}) : St :=
  ⟨41, 0, [(0,.isl false (cI .i64 (NI (widN i.val a))) (L + i.val)), (8,.val (.int .i64 k)), (9,.val (.int .i64 i.val))], []⟩
def wdJ (W : List Nat) (M k i : Nat) (j : {j : Nat // j ≤ M}) : St :=
  ⟨41, 0, [(0,.isl false (cI .i64 (NI W)) M), (5,.sl 0 0 (M + 1) 1), (8,.val (.int .i64 k)), (9,.val (.int .i64 i)), (15,.isl false (cI .i64 (NI W)) M), (16,.val (.int .i64 M)), (17,.val (.int .i64 j.val))], [(0, some (.cells (cI .i64 (NI (tabN (M + 1) (fw W j.val)))) 2))]⟩
theorem widen_ok (hL : a.length = L) (hb : ∀ q, a.getD q 0 ≤ 2 ^ 20) (hk : k ≤ 16) (hL2 : L ≤ 2 ^ 20) : ACall Tryd.prog 51 [.isl false (cI .i64 (NI a)) L, .val (.int .i64 k)] [] 0 (.isl false (cI .i64 (NI (widN k a))) (L + k)) [] := by
  have hbd : ∀ i, i ≤ k → ∀ q, (widN i a).getD q 0 ≤ 2 ^ 40 := fun i hi q => by
    have h1 := widN_le hb i q
    have h2 : 2 ^ i ≤ 2 ^ 16 := Nat.pow_le_pow_right (by omega) (by omega)
    have h3 : 2 ^ i * 2 ^ 20 ≤ 2 ^ 16 * 2 ^ 20 := Nat.mul_le_mul_right _ h2
    omega
  have hln : ∀ i, (widN i a).length = L + i := fun i => by rw [widN_len, hL]
  have hW := dmy_def; have hws := dmy_def; have hz := dmy_def; have hg1 := dmy_def; have hg2 := dmy_def; have hg3 := dmy_def; have hs1 := dmy_def; have hs2 := dmy_def; have hN := dmy_def; have hen := dmy_def; have hMi := dmy_def; have hM1 := dmy_def; have hen2 := dmy_def; have hWl := dmy_def
  refine ACall.enter Tryd.func51 rfl (by simp [Tryd.ntmps51]) (by simp) ?_; simp only [entry, idx, Tryd.ntmps51, List.length, List.map_cons, List.map_nil, List.append_nil, List.cons_append, List.nil_append, Nat.reduceAdd, Nat.zero_add, List.length_cons, List.length_nil]
  repeat' (first | ((first | refine AC_frzS (r := 10) 0 ?_ | refine AC_frzR (r := 10) 0 ?_); simp -dsimp (disch := try exact vD) only [push_cast, simprocAttr, hW, hWl, hws, hz, widN_0, Nat.add_zero, hg1, hg2, hg3, hs1, hs2, hN, hen, hMi, hM1, hen2, NI_len, tabN_len]; (repeat refine aI ?_); intro K hK; refine hK _ _ ?_; clear hK K) | (refine AC_loop_id ?_; refine AC_loop' [0] ([0].length) (wdJ W M k i) (fun j => M - j.val) (⟨0, by omega⟩) rfl (by unfold wdJ; (try simp only [List.cons_append, List.nil_append]); refine Sub.mk2 ?_; (simp -dsimp (disch := try exact vD) only [push_cast, simprocAttr, hW, hWl, hws, hz, widN_0, Nat.add_zero, hg1, hg2, hg3, hs1, hs2, hN, hen, hMi, hM1, hen2, NI_len, tabN_len]); (repeat refine aI ?_); first | done | exact vI) ?_; (rintro ⟨j, hj⟩; rcases Nat.lt_or_eq_of_le hj with hjl | hjl <;> first | (have ej : M = j := hjl.symm; have hen : cI .i64 (NI (tabN (M + 1) (fw W j))) = cI .i64 (NI (wid W)) := (by rw [← ej, fw_end hWl]); (simp -dsimp (disch := try exact vD) only [push_cast, simprocAttr, wdJ])) | (have hx := hWb j; have hg1 := NI_at (l := W) (j := j) (by omega); obtain ⟨x, hxe⟩ : ∃ x, W.getD j 0 = x := ⟨_, rfl⟩; rw [hxe] at hx hg1; have hcb : fw W j j ≤ 2 ^ 40 := (by unfold fw; have := hWb (j - 1); split <;> split <;> omega); have hdb : gw W j (j + 1) ≤ 2 ^ 40 := (by unfold gw; have := hWb (j + 1 - 1); split <;> split <;> omega); have hg2 := NI_tab (f := fw W j) (j := j) (m := M + 1) (by omega); have hg3 := NI_tab (f := gw W j) (j := j + 1) (m := M + 1) (by omega); have l1 : (NI W).length = M := (by rw [NI_len, hWl]); have l2 : (NI (tabN (M + 1) (fw W j))).length = M + 1 := (by rw [NI_len, tabN_len]); have l3 : (NI (tabN (M + 1) (gw W j))).length = M + 1 := (by rw [NI_len, tabN_len]); have hs1 : (cI .i64 (NI (tabN (M + 1) (fw W j)))).set j (.val (.int .i64 (((fw W j j : Nat) : Int) + (x : Int)))) = cI .i64 (NI (tabN (M + 1) (gw W j))) := tab_set (by omega) (by rw [← hxe, fw_s1]; omega) (fun q hq hne => fw_s1' hne); have hs2 : (cI .i64 (NI (tabN (M + 1) (gw W j)))).set (j + 1) (.val (.int .i64 (((gw W j (j + 1) : Nat) : Int) + (x : Int)))) = cI .i64 (NI (tabN (M + 1) (fw W (j + 1)))) := tab_set (by omega) (by rw [← hxe, fw_s2]; omega) (fun q hq hne => fw_s2' hne); obtain ⟨c, hce⟩ : ∃ c, fw W j j = c := ⟨_, rfl⟩; obtain ⟨d, hde⟩ : ∃ d, gw W j (j + 1) = d := ⟨_, rfl⟩; rw [hce] at hcb hg2 hs1; rw [hde] at hdb hg3 hs2; (simp -dsimp (disch := try exact vD) only [push_cast, simprocAttr, wdJ])))) | (refine Nxt_id ?_; refine Nxt.mk [0] (⟨j + 1, by omega⟩) rfl (by unfold wdJ; (try simp only [List.cons_append, List.nil_append]); refine Sub.mk2 ?_; (simp -dsimp (disch := try exact vD) only [push_cast, simprocAttr, hW, hWl, hws, hz, widN_0, Nat.add_zero, hg1, hg2, hg3, hs1, hs2, hN, hen, hMi, hM1, hen2, NI_len, tabN_len]); (repeat refine aI ?_); first | done | exact vI) (by first | omega | (dsimp only; omega) | (simp; done) | (simp; omega))) | (refine AC_loop_id ?_; refine AC_loop' [] ([].length) (wdI a L k) (fun i => k - i.val) (⟨0, by omega⟩) rfl (by unfold wdI; (try simp only [List.cons_append, List.nil_append]); refine Sub.mk2 ?_; (simp -dsimp (disch := try exact vD) only [push_cast, simprocAttr, hW, hWl, hws, hz, widN_0, Nat.add_zero, hg1, hg2, hg3, hs1, hs2, hN, hen, hMi, hM1, hen2, NI_len, tabN_len]); (repeat refine aI ?_); first | done | exact vI) ?_; (rintro ⟨i, hi⟩; rcases Nat.lt_or_eq_of_le hi with hil | hil <;> first | (have ei : k = i := hil.symm; subst ei; (simp -dsimp (disch := try exact vD) only [push_cast, simprocAttr, wdI])) | (have hws := widN_s i a; have hWl := hln i; have hWb := hbd i hi; obtain ⟨W, hW⟩ : ∃ W, widN i a = W := ⟨_, rfl⟩; obtain ⟨M, hMe⟩ : ∃ M, L + i = M := ⟨_, rfl⟩; have hM1 : L + (i + 1) = M + 1 := (by omega); rw [hW] at hws hWl hWb; rw [hMe] at hWl; have hen2 : List.take (M + 1) (NI (wid W)) = NI (wid W) := List.take_of_length_le (by rw [NI_len, wid_len, hWl]; omega); have hz := tab_zero (m := M + 1) (f := fw W 0) (fun q hq => by unfold fw; simp); (simp -dsimp (disch := try exact vD) only [push_cast, simprocAttr, wdI, hMe, hW])))) | (refine Nxt_id ?_; refine Nxt.mk [] (⟨i + 1, by omega⟩) rfl (by unfold wdI; (try simp only [List.cons_append, List.nil_append]); refine Sub.mk2 ?_; (simp -dsimp (disch := try exact vD) only [push_cast, simprocAttr, hW, hWl, hws, hz, widN_0, Nat.add_zero, hg1, hg2, hg3, hs1, hs2, hN, hen, hMi, hM1, hen2, NI_len, tabN_len]); (repeat refine aI ?_); first | done | exact vI) (by first | omega | (dsimp only; omega) | (simp; done) | (simp; omega))) | apply AC_seq | apply AC_region_lit | ((first | refine AL_go rfl (fun K hK => ?_) | refine AL_go0 (fun K hK => ?_)); (first | apply R_move | apply R_assign | apply Q_load | apply Q_loadAgg | apply Q_indexAddr | apply Q_indexArr | apply Q_len | apply Q_lenStr | apply Q_store | apply Q_makeSlice | apply Q_bin); simp -dsimp (disch := try exact vD) only [push_cast, simprocAttr, hW, hWl, hws, hz, widN_0, Nat.add_zero, hg1, hg2, hg3, hs1, hs2, hN, hen, hMi, hM1, hen2, NI_len, tabN_len]; (repeat refine aI ?_); apply hK; clear hK K) | ((first | refine AL_guard rfl rfl (fun K1 K2 h1 h2 => ?_) rfl | refine AC_cond_k (fun K1 K2 h1 h2 => ?_)); simp -dsimp (disch := try exact vD) only [push_cast, simprocAttr, hW, hWl, hws, hz, widN_0, Nat.add_zero, hg1, hg2, hg3, hs1, hs2, hN, hen, hMi, hM1, hen2, NI_len, tabN_len]; (first | (refine ⟨fun hc => ?_, fun hc => ?_⟩ <;> first | (exfalso; omega) | (exfalso; contradiction) | refine h1 ?_ | refine h2 ?_) | refine h1 ?_ | refine h2 ?_); all_goals clear h1 h2 K1 K2) | apply AL_nil | apply Thn_normal | apply Thn_ret | apply Thn_exit | apply Blk_normal | apply Blk_ret | apply Blk_here | (refine Blk_other rfl ?_) | apply AC_block | apply AC_exit | apply AC_skip | apply AC_ret)
  all_goals first
    | ((refine Ends.mk2 (by first | exact .inr rfl | exact .inl rfl) [] ?_; simp -dsimp (disch := try exact vD) only [push_cast, simprocAttr, Tryd.f51]; (repeat refine aI ?_); try (first | exact vI | fail)); done)
    | trace_state
end Go.Proofs.YtabafldpnkjboaaDoor
