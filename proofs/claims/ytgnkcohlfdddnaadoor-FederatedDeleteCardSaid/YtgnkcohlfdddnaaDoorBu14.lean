/- Substitute: the program's side. No condition. -/
import Derived.Test.YtgnkcohlfdddnaaDoorBu10
import Derived.Test.YtgnkcohlfdddnaaDoorBu13
import Derived.Test.YtgnkcohlfdddnaaDoorBpA
set_option linter.unusedVariables false
set_option linter.unusedSectionVars false
set_option linter.unusedSimpArgs false
set_option maxHeartbeats 2000000
set_option maxRecDepth 20000
namespace Go.Proofs.YtgnkcohlfdddnaaDoor
open Go Go.Sy Go.Bp
attribute [local irreducible] AO AL AC OpT ACall Ends DGo DRun Thn Blk Nxt
variable {z zl : Bool} {n i j m r L f q : Nat} {a y : Int} {x : Ex} {l : List Ex} {t : Nd} {out : List Nd}
def listE : List Ex → Int
  | [] => 0
  | y :: ys => if validE y = 0 then listE ys else validE y
theorem listE_app (a b : List Ex) (h : listE a = 0) : listE (a ++ b) = listE b := by
  induction a with
  | nil => rfl
  | cons y a ih =>
    simp only [listE] at h
    by_cases h0 : validE y = 0
    · rw [if_pos h0] at h; simp only [List.cons_append, listE, if_pos h0]; exact ih h
    · rw [if_neg h0] at h; exact absurd h h0
theorem listE_bad (hj : j < l.length) (h : listE (l.take j) = 0) (hn : ¬ validE (l.getD j default) = 0) : listE l = validE (l.getD j default) := by
  have e : l = l.take j ++ l.getD j default :: l.drop (j + 1) := by
    have : l.drop j = l.getD j default :: l.drop (j + 1) := by rw [List.drop_eq_getElem_cons hj]; simp [List.getD_eq_getElem?_getD, hj]
    rw [← this, List.take_append_drop]
  conv => lhs; rw [e]
  rw [listE_app _ _ h, listE, if_neg hn]
theorem listE_s (hj : j < l.length) (h : listE (l.take j) = 0) (hn : validE (l.getD j default) = 0) : listE (l.take (j + 1)) = 0 := by
  have e : l.take (j + 1) = l.take j ++ [l.getD j default] := by rw [List.take_add_one]; simp [List.getD_eq_getElem?_getD, hj]
  rw [e, listE_app _ _ h, listE, if_pos hn]; rfl
theorem listE_ok (h : listE l = 0) : ∀ y ∈ l, XOk y := by
  induction l with
  | nil => simp
  | cons y ys ih =>
    simp only [listE] at h
    by_cases h0 : validE y = 0
    · rw [if_pos h0] at h
      intro u hu
      rcases List.mem_cons.1 hu with rfl | hu
      · exact validE_ok h0
      · exact ih h u hu
    · rw [if_neg h0] at h; exact absurd h h0
def subE (mk : Nd → List Int → Nd) (x : Ex) (l : List Ex) : Ex × Int :=
  if validE x ≠ 0 then (default, validE x) else if listE l ≠ 0 then (default, listE l) else if 61 ≤ size 61 (ofP l) x then (default, 3)
  else (⟨false, growX mk x l, ((growX mk x l).length : Int) - 1⟩, 0)
theorem subE_1 {mk : Nd → List Int → Nd} (h : ¬ validE x = 0) : subE mk x l = (default, validE x) := by unfold subE; rw [if_pos h]
theorem subE_2 {mk : Nd → List Int → Nd} (h : validE x = 0) (h2 : ¬ listE l = 0) : subE mk x l = (default, listE l) := by unfold subE; rw [if_neg (by simp [h]), if_pos h2]
theorem subE_3 {mk : Nd → List Int → Nd} (h : validE x = 0) (h2 : listE l = 0) (h3 : 61 ≤ size 61 (ofP l) x) : subE mk x l = (default, 3) := by unfold subE; rw [if_neg (by simp [h]), if_neg (by simp [h2]), if_pos h3]
theorem subE_4 {mk : Nd → List Int → Nd} (h : validE x = 0) (h2 : listE l = 0) (h3 : ¬ 61 ≤ size 61 (ofP l) x) : subE mk x l = (⟨false, growX mk x l, ((growX mk x l).length : Int) - 1⟩, 0) := by unfold subE; rw [if_neg (by simp [h]), if_neg (by simp [h2]), if_neg h3]
theorem sub0_ok (n : Nd) : SubOk sub0 one1 61 n := ⟨fun _ _ h => (by cases h), fun _ _ _ => rfl⟩
theorem subL_ok {mk : Nd → List Int → Nd} (hl : ∀ y ∈ l, XOk y) (h0 : 0 ≤ t.server) : SubOk (subL mk l) (ofP l) 61 t := by
  refine ⟨fun out o h => ?_, fun out h hk => ?_⟩
  · unfold subL at h
    split at h
    · rename_i hc
      have hy := hl (l.getD t.server.toNat default) (getD_mem (by omega))
      have hg := size_grow (mk := mk) hy (c := 61) (by decide) (fun j hj => sub0_ok _) out
      rw [← Option.some.inj h, ofP_1 hc.2]
      exact ⟨hc.1, hg.1, hg.2⟩
    · cases h
  · unfold subL at h
    split at h
    · cases h
    · rename_i hc
      exact ofP_2 (fun h2 => hc ⟨hk, h2⟩)
theorem growX_few {mk : Nd → List Int → Nd} (hx : XOk x) (hl : ∀ y ∈ l, XOk y) (h : ¬ 61 ≤ size 61 (ofP l) x) : (growX mk x l).length ≤ 60 ∧ 1 ≤ (growX mk x l).length := by
  have hg := size_grow (mk := mk) hx (c := 61) (by decide) (fun j hj => subL_ok (mk := mk) hl (hx.node j hj).srv.1) []
  unfold growX
  simp only [List.length_nil] at hg
  omega
theorem ex_dflt' : Cells.cells (default : Ex) = [.isl true [] 0, .val (.int .i64 0)] := rfl
def suI (x : Ex) (l : List Ex) (zl : Bool) (L : Nat) (j : {j : Nat // j ≤ L ∧ listE (l.take j) = 0}) : St :=
  ⟨42, 0, [(2,.pt 0 0), (3,.pt 1 0), (4,.pt 2 0), (18,.isl zl (cR l) L), (19,.val (.int .i64 L)), (20,.val (.int .i64 j.val))],
   [(0, some (.cells (Cells.cells x) 50)), (1, some (.cells [.isl zl (cR l) L] 24)), (2, some (.cells [.isl true [] 0, .val (.int .i64 0)] 50))]⟩
theorem subst_raw (hsh : Short x) (hfl : Flag x) (hls : ∀ y ∈ l, Short y ∧ Flag y) (hL : l.length = L) (hL2 : L < 2^40) :
    ACall Tryd.prog 55 [.agg (Cells.cells x), .isl zl (cR l) L] [] 0 (.tup [.agg (Cells.cells (subE mkP x l).1), .val (.int .i64 (subE mkP x l).2)]) [] := by
  have hW := fun (h : validE x = 0) (h2 : listE l = 0) (h3 : ¬ 61 ≤ size 61 (ofP l) x) => PLift.up ((W_l (zl := zl) (validE_ok h) hfl (fun y hy => ⟨listE_ok h2 y hy, (hls y hy).2⟩) hL hL2).z 0 (Nat.le_trans (growX_few (mk := mkP) (validE_ok h) (listE_ok h2) h3).1 (by omega)))
  have hfw := fun (h : validE x = 0) (h2 : listE l = 0) (h3 : ¬ 61 ≤ size 61 (ofP l) x) => growX_few (mk := mkP) (validE_ok h) (listE_ok h2) h3
  have hSz := fun (h : validE x = 0) (h2 : listE l = 0) => PLift.up (size_l (zl := zl) (validE_ok h) hsh (listE_ok h2) (fun y hy => (hls y hy).1) hL hL2)
  have hVl := fun (j : Nat) (h : j < l.length) => PLift.up (valid_ok (hls (l.getD j default) (getD_mem h)).1)
  have hVx := PLift.up (valid_ok hsh)
  simp only [wN, eN, eZ] at hW
  change ∀ (h : validE x = 0) (h2 : listE l = 0) (h3 : ¬ 61 ≤ size 61 (ofP l) x), PLift (ACall _ _ _ _ _ _ [.cells [.sl 1 0 (growX mkP x l).length 5, .val (.int .i64 (((growX mkP x l).length : Int) - 1))] _, .cells (cR (growX mkP x l)) _]) at hW
  generalize hG : growX mkP x l = G at *
  clear hls
  refine ACall.enter Tryd.func55 rfl (by simp [Tryd.ntmps55]) (by simp) ?_; simp only [entry, idx, Tryd.ntmps55, List.length, List.map_cons, List.map_nil, List.append_nil, List.cons_append, List.nil_append, Nat.reduceAdd, Nat.zero_add, List.length_cons, List.length_nil]
  repeat' (first | ((first | refine AC_frzS (r := 12) 1 ?_ | refine AC_frzR (r := 12) 1 ?_); simp -dsimp (disch := first | exact vD | fail) only [push_cast, simprocAttr]; (repeat (refine aI ?_)); intro K hK; refine hK _ _ ?_; clear hK K) | ((first | refine AC_frzS (r := 12) 3 ?_ | refine AC_frzR (r := 12) 3 ?_); simp -dsimp (disch := first | exact vD | fail) only [push_cast, simprocAttr]; (repeat (refine aI ?_)); intro K hK; refine hK _ _ ?_; clear hK K) | (refine AC_loop_id ?_; refine AC_loop' [0,1,2] ([0,1,2].length) (suI x l zl L) (fun j => L - j.val) (⟨0, by omega, rfl⟩) rfl (by unfold suI; (try simp only [List.cons_append, List.nil_append]); refine Sub.mk2 ?_; (simp -dsimp (disch := first | exact vD | fail) only [push_cast, simprocAttr]); (repeat (refine aI ?_)); (first | done | (first | exact vI | fail)); done) ?_; (rintro ⟨j, hj, he⟩; rcases Nat.lt_or_eq_of_le hj with hjl | hjl <;> first | (have ej : L = j := hjl.symm; subst ej; rw [List.take_of_length_le (by omega)] at he; (simp -dsimp (disch := first | exact vD | fail) only [push_cast, simprocAttr, suI])) | (simp -dsimp (disch := first | exact vD | fail) only [push_cast, simprocAttr, suI]))) | (refine Nxt_id ?_; refine Nxt.mk [0,1,2] (⟨j + 1, by omega, listE_s (by omega) he (by omega)⟩) rfl (by unfold suI; (try simp only [List.cons_append, List.nil_append]); refine Sub.mk2 ?_; (simp -dsimp (disch := first | exact vD | fail) only [push_cast, simprocAttr]); (repeat (refine aI ?_)); (first | done | (first | exact vI | fail)); done) (by first | omega | (simp; done) | (simp; omega))) | (refine AC_seq ?_) | (refine AC_region_lit ?_) | ((first | refine AL_go rfl (fun K hK => ?_) | refine AL_go0 (fun K hK => ?_)); (first | refine R_callG (f := 65) (dst := some 13) [] 0 false ?_ | refine R_callG (f := 65) (dst := some 25) [] 0 false ?_ | refine R_callG (f := 77) [] 0 false ?_ | refine R_callG (f := 79) [4] 1 false ?_); simp -dsimp (disch := first | exact vD | fail) only [push_cast, simprocAttr]; (repeat (refine aI ?_)); intro G hG; refine hG _ _ ?_; clear hG G; (first | refine ⟨_, _, hVx.down, ?_⟩ | refine ⟨_, _, (hVl j (by omega)).down, ?_⟩ | refine ⟨_, _, (hSz (by omega) he).down, ?_⟩ | refine ⟨_, _, (hW (by omega) he (by omega)).down, ?_⟩); simp -dsimp (disch := first | exact vD | fail) only [push_cast, simprocAttr]; (repeat (refine aI ?_)); (first | refine hK _ _ _ ?_ | refine hK _ _ ?_); clear hK K) | ((first | refine AL_go rfl (fun K hK => ?_) | refine AL_go0 (fun K hK => ?_)); (first | refine R_move _ ?_ | refine R_assign _ ?_ | refine Q_load _ _ ?_ | refine Q_loadAgg _ _ ?_ | refine Q_fieldAddr _ _ _ ?_ | refine Q_indexAddr _ _ _ ?_ | refine Q_indexArr _ _ _ ?_ | refine Q_len _ _ ?_ | refine Q_lenStr _ _ ?_ | refine Q_box _ _ ?_ | refine R_alloc _ ?_ | refine Q_store _ _ _ ?_ | refine Q_build _ _ ?_ | refine Q_buildArr _ _ ?_ | refine Q_makeFunc _ _ ?_ | refine Q_eqAgg _ _ _ _ ?_ | refine Q_neqAgg _ _ _ _ ?_ | refine Q_neqSelf _ _ _ _ ?_ | refine Q_bin _ _ _ _ _ ?_); simp -dsimp (disch := first | exact vD | fail) only [push_cast, simprocAttr]; (repeat (refine aI ?_)); (first | refine hK _ _ _ ?_ | refine hK _ _ ?_); clear hK K) | ((first | refine AL_guard rfl rfl (fun K1 K2 h1 h2 => ?_) rfl | refine AC_cond_k (fun K1 K2 h1 h2 => ?_)); simp -dsimp (disch := first | exact vD | fail) only [push_cast, simprocAttr]; (first | (refine ⟨fun hc => ?_, fun hc => ?_⟩ <;> first | (exfalso; omega) | (exfalso; contradiction) | refine h1 ?_ | refine h2 ?_) | refine h1 ?_ | refine h2 ?_); all_goals clear h1 h2 K1 K2) | (refine AL_nil ?_) | (refine Thn_normal ?_) | (refine Thn_ret ?_) | (refine Thn_exit ?_) | (refine Blk_normal ?_) | (refine Blk_ret ?_) | (refine Blk_here ?_) | (refine Blk_other rfl ?_) | (refine AC_block ?_) | (refine AC_exit ?_) | (refine AC_skip ?_) | (refine AC_ret ?_))
  all_goals first
    | (have e := subE_1 (mk := mkP) (x := x) (l := l) (by omega); (refine Ends.mk2 (by first | exact .inr rfl | exact .inl rfl) [] ?_; simp -dsimp (disch := first | exact vD | fail) only [push_cast, simprocAttr, Tryd.f55, e, ex_dflt']; (repeat (refine aI ?_)); try (first | exact vI | fail)))
    | (have e := subE_2 (mk := mkP) (x := x) (l := l) (by omega) (by rw [listE_bad (j := j) (by omega) he (by omega)]; omega); rw [listE_bad (j := j) (by omega) he (by omega)] at e; (refine Ends.mk2 (by first | exact .inr rfl | exact .inl rfl) [] ?_; simp -dsimp (disch := first | exact vD | fail) only [push_cast, simprocAttr, Tryd.f55, e, ex_dflt']; (repeat (refine aI ?_)); try (first | exact vI | fail)))
    | (have e := subE_3 (mk := mkP) (x := x) (l := l) (by omega) he (by omega); (refine Ends.mk2 (by first | exact .inr rfl | exact .inl rfl) [] ?_; simp -dsimp (disch := first | exact vD | fail) only [push_cast, simprocAttr, Tryd.f55, e, ex_dflt']; (repeat (refine aI ?_)); try (first | exact vI | fail)))
    | (have e := subE_4 (mk := mkP) (x := x) (l := l) (by omega) he (by omega); rw [hG] at e; ((refine Ends.frz 5 ?_; simp -dsimp (disch := first | exact vD | fail) only [push_cast, simprocAttr, Tryd.f55, e, ex_cells, List.take_length]; (repeat (refine aI ?_)); intro K hK; refine hK _ _ ?_; clear hK K); refine Ends.mk2 (by first | exact .inr rfl | exact .inl rfl) [] ?_; simp -dsimp (disch := first | exact vD | fail) only [push_cast, simprocAttr, Tryd.f55, e, ex_cells, List.take_length]; (repeat (refine aI ?_)); try (first | exact vI | fail)))
end Go.Proofs.YtgnkcohlfdddnaaDoor
