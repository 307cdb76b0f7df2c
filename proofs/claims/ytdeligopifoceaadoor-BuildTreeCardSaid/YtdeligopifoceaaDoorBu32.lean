/- The chapter's examples. No condition. -/
import Derived.Test.YtdeligopifoceaaDoorBu18
import Derived.Test.YtdeligopifoceaaDoorBu19
import Derived.Test.YtdeligopifoceaaDoorBu21
import Derived.Test.YtdeligopifoceaaDoorBu23
import Derived.Test.YtdeligopifoceaaDoorBu26
set_option linter.unusedVariables false
set_option linter.unusedSectionVars false
set_option linter.unusedSimpArgs false
set_option maxHeartbeats 2000000
set_option maxRecDepth 20000
namespace Go.Proofs.YtdeligopifoceaaDoor
open Go Go.Sy Go.Bp
attribute [local irreducible] AO AL AC OpT ACall Ends DGo DRun Thn Blk Nxt
variable {x o : Ex} {l : List Int} {L n : Nat} {e : TypeId} {b : ByteArray} {q : Int} {k : List Ex}
theorem own_cI (h : l.length = n) : (cI .i64 l).take n = cI .i64 l := List.take_of_length_le (by rw [cI_len]; omega)
theorem T_okO (hl : l.length = n) (hn : n ≤ 1000) : ACall Tryd.prog 14 [.val (.int .i64 q), .sl 0 0 n 1] [.cells (cI .i64 l) e] 0 (xeV (thrE q l)) [] :=
  ACall.own (args' := [.val (.int .i64 q), .isl false (cI .i64 l) n]) (by rw [cI_bnd]; trivial) (by simp [frzV, own_cI hl]) (by simp [bnd]) (T_ok hl hn)
theorem Wa_okO (hl : l.length = n) (hn : n ≤ 1000) : ACall Tryd.prog 24 [.sl 0 0 n 1] [.cells (cI .i64 l) e] 0 (xeV (wallE l)) [] :=
  ACall.own (args' := [.isl false (cI .i64 l) n]) (by rw [cI_bnd]; trivial) (by simp [frzV, own_cI hl]) (by simp [bnd]) (Wa_ok hl (by omega))
theorem Co_okO (hso : Short o) (hfo : Flag o) (hls : ∀ y ∈ k, Short y ∧ Flag y ∧ Nz y) (hL2 : k.length ≤ 1000) :
    ACall Tryd.prog 31 [.agg (Cells.cells o), .sl 0 0 k.length 2] [.cells (cR k) e] 0 (xeV (compE mkP o k)) [] :=
  ACall.own (args' := [.agg (Cells.cells o), .isl false (cR k) k.length]) (by rw [cR_bnd]; trivial) (by simp [frzV, own_cs rfl, cc_frz]) (by
    intro y hy
    rcases List.mem_cons.1 hy with rfl | hy
    · unfold bnd; rw [cc_bnd]; trivial
    · rw [List.mem_singleton.1 hy]; simp [bnd]) (Co_ok hso hfo hls hL2)
theorem ltext_c (x : Ex) (b : ByteArray) (hsh : Short x) (h2 : (subE mkR x []).2 = 0) (hy : txB (subE mkR x []).1 = true) (hb : txt (subE mkR x []).1 = b) :
    ACall Tryd.prog 45 [.agg (Cells.cells x), .val (.int .i64 0)] [] 0 (.val (.string b)) [] := by
  rw [← hb]
  exact ltext_ok hsh (Prod.ext rfl h2) hy
def xMaj : Ex := thr 3 (servs (upTo 0 4)) true []
def xGR : Ex := thr 1 (gdR 2 2) true []
def xGW : Ex := thr 2 (gdS 2 2) true []
def xWa : Ex := wallX [1, 2]
def xO : Ex := thr 2 (servs [0, 1]) true []
def xI : Ex := thr 1 (servs [0, 1]) true []
def xC : Ex := (compE mkP xO [xI, srv 0]).1
theorem aw_maj : ACall Tryd.prog 33 [.val (.int .i64 4)] [] 0 (.tup [.agg (Cells.cells xMaj), .val (.int .i64 0)]) [] := by
  have h := M_ok (a := 4); rwa [show majE 4 = (xMaj, 0) by decide +kernel] at h
theorem aw_grid : ACall Tryd.prog 18 [.val (.int .i64 2), .val (.int .i64 2)] [] 0 (.tup [.agg (Cells.cells xGR), .agg (Cells.cells xGW), .val (.int .i64 0)]) [] := by
  have h := Gr_ok (a := 2) (b := 2); rwa [show gridE 2 2 = (xGR, xGW, 0) by decide +kernel] at h
theorem aw_thO : ACall Tryd.prog 14 [.val (.int .i64 2), .sl 0 0 2 1] [.cells (cI .i64 [0, 1]) e] 0 (.tup [.agg (Cells.cells xO), .val (.int .i64 0)]) [] := by
  have h := T_okO (q := 2) (l := [0, 1]) (n := 2) (e := e) rfl (by omega); rwa [show thrE 2 [0, 1] = (xO, 0) by decide +kernel] at h
theorem aw_thI : ACall Tryd.prog 14 [.val (.int .i64 1), .sl 0 0 2 1] [.cells (cI .i64 [0, 1]) e] 0 (.tup [.agg (Cells.cells xI), .val (.int .i64 0)]) [] := by
  have h := T_okO (q := 1) (l := [0, 1]) (n := 2) (e := e) rfl (by omega); rwa [show thrE 1 [0, 1] = (xI, 0) by decide +kernel] at h
theorem aw_wall : ACall Tryd.prog 24 [.sl 0 0 2 1] [.cells (cI .i64 [1, 2]) e] 0 (.tup [.agg (Cells.cells xWa), .val (.int .i64 0)]) [] := by
  have h := Wa_okO (l := [1, 2]) (n := 2) (e := e) rfl (by omega); rwa [show wallE [1, 2] = (xWa, 0) by decide +kernel] at h
theorem aw_tree : ACall Tryd.prog 26 [.val (.int .i64 2)] [] 0 (.tup [.agg (Cells.cells tree2), .val (.int .i64 0)]) [] := Tr_ok (a := 2)
theorem aw_comp : ACall Tryd.prog 31 [.agg (Cells.cells xO), .sl 0 0 2 2] [.cells (cR [xI, srv 0]) e] 0 (.tup [.agg (Cells.cells xC), .val (.int .i64 0)]) [] := by
  have h := Co_okO (o := xO) (k := [xI, srv 0]) (e := e) (by unfold Short; decide +kernel) (by unfold Flag; decide +kernel) (by
    intro y hy
    rcases List.mem_cons.1 hy with rfl | hy
    · exact ⟨by unfold Short; decide +kernel, by unfold Flag; decide +kernel, by unfold Nz; decide +kernel⟩
    · rw [List.mem_singleton.1 hy]; exact ⟨by unfold Short; decide +kernel, by unfold Flag; decide +kernel, by unfold Nz; decide +kernel⟩) (by decide)
  rwa [show compE mkP xO [xI, srv 0] = (xC, 0) by decide +kernel] at h
theorem aw_t1 : ACall Tryd.prog 45 [.agg (Cells.cells xMaj), .val (.int .i64 0)] [] 0 (.val (.string ⟨#[51, 40, 115, 48, 44, 32, 115, 49, 44, 32, 115, 50, 44, 32, 115, 51, 41]⟩)) [] :=
  ltext_c _ _ (by unfold Short; decide +kernel) (by decide +kernel) (by decide +kernel) (by decide +kernel)
theorem aw_t2 : ACall Tryd.prog 45 [.agg (Cells.cells xGR), .val (.int .i64 0)] [] 0 (.val (.string ⟨#[49, 40, 50, 40, 115, 48, 44, 32, 115, 49, 41, 44, 32, 50, 40, 115, 50, 44, 32, 115, 51, 41, 41]⟩)) [] :=
  ltext_c _ _ (by unfold Short; decide +kernel) (by decide +kernel) (by decide +kernel) (by decide +kernel)
theorem aw_t3 : ACall Tryd.prog 45 [.agg (Cells.cells xGW), .val (.int .i64 0)] [] 0 (.val (.string ⟨#[50, 40, 49, 40, 115, 48, 44, 32, 115, 49, 41, 44, 32, 49, 40, 115, 50, 44, 32, 115, 51, 41, 41]⟩)) [] :=
  ltext_c _ _ (by unfold Short; decide +kernel) (by decide +kernel) (by decide +kernel) (by decide +kernel)
theorem aw_t4 : ACall Tryd.prog 45 [.agg (Cells.cells xWa), .val (.int .i64 0)] [] 0 (.val (.string ⟨#[49, 40, 50, 40, 49, 40, 115, 48, 41, 44, 32, 49, 40, 115, 49, 44, 32, 115, 50, 41, 41, 44, 32, 49, 40, 50, 40, 115, 49, 44, 32, 115, 50, 41, 41, 41]⟩)) [] :=
  ltext_c _ _ (by unfold Short; decide +kernel) (by decide +kernel) (by decide +kernel) (by decide +kernel)
theorem aw_t5 : ACall Tryd.prog 45 [.agg (Cells.cells tree2), .val (.int .i64 0)] [] 0 (.val (.string ⟨#[50, 40, 115, 48, 44, 32, 115, 49, 44, 32, 115, 50, 41]⟩)) [] :=
  ltext_c _ _ (by unfold Short; decide +kernel) (by decide +kernel) (by decide +kernel) (by decide +kernel)
theorem aw_t6 : ACall Tryd.prog 45 [.agg (Cells.cells xC), .val (.int .i64 0)] [] 0 (.val (.string ⟨#[50, 40, 49, 40, 115, 48, 44, 32, 115, 49, 41, 44, 32, 115, 50, 41]⟩)) [] :=
  ltext_c _ _ (by unfold Short; decide +kernel) (by decide +kernel) (by decide +kernel) (by decide +kernel)
theorem c01 : [AV.val (.int .i64 0), .val (.int .i64 1)] = cI .i64 [0, 1] := rfl
theorem c12 : [AV.val (.int .i64 1), .val (.int .i64 2)] = cI .i64 [1, 2] := rfl
theorem u_xI : Cells.cells xI = [.isl xI.nz (cR xI.nodes) xI.nodes.length, .val (.int .i64 xI.root)] := rfl
theorem c_srv : [AV.isl false [AV.val (.int .i64 1), .val (.int .i64 0), .val (.int .i64 0), .isl true [] 0, .isl true [] 0] 1, .val (.int .i64 0)] = [AV.isl (srv 0).nz (cR (srv 0).nodes) (srv 0).nodes.length, .val (.int .i64 (srv 0).root)] := rfl
theorem cin : [AV.isl xI.nz (cR xI.nodes) xI.nodes.length, .val (.int .i64 xI.root), AV.isl (srv 0).nz (cR (srv 0).nodes) (srv 0).nodes.length, .val (.int .i64 (srv 0).root)] = cR [xI, srv 0] := rfl
theorem awake_ok : ACall Tryd.prog 13 [] [] 0 (.val (.bool true)) [] := by
  refine ACall.enter Tryd.func13 rfl (by simp [Tryd.ntmps13]) (by simp) ?_
  simp only [entry, idx, Tryd.ntmps13, List.length, List.map_cons, List.map_nil, List.append_nil, List.cons_append, List.nil_append, Nat.reduceAdd, Nat.zero_add, List.length_cons, List.length_nil]
  repeat' (first | ((first | refine AC_frzS (r := 3) 2 ?_ | refine AC_frzR (r := 3) 2 ?_); simp (dsimp := false) (disch := first | exact vD | fail) only [push_cast, simprocAttr, c01, c12, cin, c_srv, u_xI]; (repeat (refine aI ?_)); intro K hK; refine hK _ _ ?_; clear hK K) | (refine AC_seq ?_) | (refine AC_region_lit ?_) | ((first | refine AL_go rfl (fun K hK => ?_) | refine AL_go0 (fun K hK => ?_)); (first | refine R_callG (f := 18) [] 0 false ?_ | refine R_callG (f := 14) (dst := some 20) [4] 0 false ?_ | refine R_callG (f := 14) (dst := some 25) [6] 0 false ?_ | refine R_callG (f := 33) [] 0 false ?_ | refine R_callG (f := 45) (dst := some 42) [] 0 false ?_ | refine R_callG (f := 45) (dst := some 48) [] 0 false ?_ | refine R_callG (f := 45) (dst := some 54) [] 0 false ?_ | refine R_callG (f := 45) (dst := some 63) [] 0 false ?_ | refine R_callG (f := 45) (dst := some 70) [] 0 false ?_ | refine R_callG (f := 45) (dst := some 81) [] 0 false ?_ | refine R_callG (f := 24) [8] 0 false ?_ | refine R_callG (f := 26) [] 0 false ?_ | refine R_callG (f := 31) [9] 0 false ?_); simp (dsimp := false) (disch := first | exact vD | fail) only [push_cast, simprocAttr, c01, c12, cin, c_srv, u_xI]; (repeat (refine aI ?_)); intro G hG; refine hG _ _ ?_; clear hG G; (first | refine ⟨_, _, aw_grid, ?_⟩ | refine ⟨_, _, aw_thO, ?_⟩ | refine ⟨_, _, aw_thI, ?_⟩ | refine ⟨_, _, aw_maj, ?_⟩ | refine ⟨_, _, aw_t1, ?_⟩ | refine ⟨_, _, aw_t2, ?_⟩ | refine ⟨_, _, aw_t3, ?_⟩ | refine ⟨_, _, aw_t4, ?_⟩ | refine ⟨_, _, aw_t5, ?_⟩ | refine ⟨_, _, aw_t6, ?_⟩ | refine ⟨_, _, aw_wall, ?_⟩ | refine ⟨_, _, aw_tree, ?_⟩ | refine ⟨_, _, aw_comp, ?_⟩); simp (dsimp := false) (disch := first | exact vD | fail) only [push_cast, simprocAttr, c01, c12, cin, c_srv, u_xI]; (repeat (refine aI ?_)); (first | refine hK _ _ _ ?_ | refine hK _ _ ?_); clear hK K) | ((first | refine AL_go rfl (fun K hK => ?_) | refine AL_go0 (fun K hK => ?_)); (first | refine R_move _ ?_ | refine R_assign _ ?_ | refine Q_load _ _ ?_ | refine Q_loadAgg _ _ ?_ | refine Q_pick _ _ _ ?_ | refine Q_extract _ _ ?_ | refine R_alloc _ ?_ | refine Q_store _ _ _ ?_ | refine Q_build _ _ ?_ | refine Q_buildArr _ _ ?_ | refine Q_buildSlice _ _ _ ?_ | refine Q_eqAgg _ _ _ _ ?_ | refine Q_neqAgg _ _ _ _ ?_ | refine Q_neqSelf _ _ _ _ ?_ | refine Q_bin _ _ _ _ _ ?_); simp (dsimp := false) (disch := first | exact vD | fail) only [push_cast, simprocAttr, c01, c12, cin, c_srv, u_xI]; (repeat (refine aI ?_)); (first | refine hK _ _ _ ?_ | refine hK _ _ ?_); clear hK K) | ((first | refine AL_guard rfl rfl (fun K1 K2 h1 h2 => ?_) rfl | refine AC_cond_k (fun K1 K2 h1 h2 => ?_)); simp (dsimp := false) (disch := first | exact vD | fail) only [push_cast, simprocAttr, c01, c12, cin, c_srv, u_xI]; (first | (refine ⟨fun hc => ?_, fun hc => ?_⟩ <;> first | (exfalso; omega) | (exfalso; contradiction) | refine h1 ?_ | refine h2 ?_) | refine h1 ?_ | refine h2 ?_); all_goals clear h1 h2 K1 K2) | (refine AL_nil ?_) | (refine Thn_normal ?_) | (refine Thn_ret ?_) | (refine Thn_exit ?_) | (refine Blk_normal ?_) | (refine Blk_ret ?_) | (refine Blk_here ?_) | (refine Blk_other rfl ?_) | (refine AC_block ?_) | (refine AC_exit ?_) | (refine AC_skip ?_) | (refine AC_ret ?_))
  all_goals first | ((refine Ends.mk2 (by first | exact .inr rfl | exact .inl rfl) [] ?_; simp (dsimp := false) (disch := first | exact vD | fail) only [push_cast, simprocAttr, Tryd.f13]; (repeat (refine aI ?_)); try (first | exact vI | fail)); done)
end Go.Proofs.YtdeligopifoceaaDoor
