/- Substitute: the reference. No condition. -/
import Derived.Test.YtgnkcohlfdddnaaDoorBu11
import Derived.Test.YtgnkcohlfdddnaaDoorBu14
import Derived.Test.YtgnkcohlfdddnaaDoorBu16
set_option linter.unusedVariables false
set_option linter.unusedSectionVars false
set_option linter.unusedSimpArgs false
set_option maxHeartbeats 2000000
set_option maxRecDepth 20000
namespace Go.Proofs.YtgnkcohlfdddnaaDoor
open Go Go.Sy Go.Bp
attribute [local irreducible] AO AL AC OpT ACall Ends DGo DRun Thn Blk Nxt
variable {z zl : Bool} {n i j m r L f q : Nat} {a y : Int} {x : Ex} {l : List Ex} {t : Nd} {out : List Nd}
def sz1 (y : Ex) : Int := size 1000 (ofR []) y
def eachN (l : List Ex) (j : Nat) : List Int := (l.take j).map sz1
theorem eachN_z (h : j = 0) : eachN l j = [] := by subst h; rfl
theorem eachN_s (h : j < l.length) : eachN l (j + 1) = eachN l j ++ [sz1 (l.getD j default)] := by
  unfold eachN; rw [List.take_add_one, List.map_append]; simp [List.getD_eq_getElem?_getD, h]
theorem eachN_len (h : j ≤ l.length) : (eachN l j).length = j := by simp [eachN]; omega
theorem eachN_tk (h : j ≤ l.length) : (eachN l j).take j = eachN l j := List.take_of_length_le (by rw [eachN_len h]; exact Nat.le_refl _)
theorem ofR_nil : ∀ s, 0 ≤ s → ofR [] s = 1 := fun s h => by unfold ofR; rw [if_neg (by simp; omega)]
theorem sub0_okR {n : Nd} (h : 0 ≤ n.server) : SubOk sub0 (ofR []) 1000 n := ⟨fun _ _ h => (by cases h), fun _ _ _ => ofR_nil _ h⟩
theorem sz1_rng (hx : XOk x) : 1 ≤ sz1 x ∧ sz1 x ≤ 1000 := by
  have hg := size_grow (mk := mkR) (sub := sub0) hx (c := 1000) (by decide) (fun j hj => sub0_okR (hx.node j hj).srv.1) []
  unfold sz1; omega
theorem eachN_rng (hl : ∀ y ∈ l, XOk y) : ∀ v ∈ eachN l j, 1 ≤ v ∧ v ≤ 1000 := fun v hv => by
  obtain ⟨y, hy, rfl⟩ := List.mem_map.1 hv
  exact sz1_rng (hl y (List.mem_of_mem_take hy))
theorem subL_okR {mk : Nd → List Int → Nd} (hl : ∀ y ∈ l, XOk y) (h0 : 0 ≤ t.server) : SubOk (subL mk l) (ofR (eachN l l.length)) 1000 t := by
  have e : ∀ s : Int, 0 ≤ s → s < l.length → ofR (eachN l l.length) s = sz1 (l.getD s.toNat default) := fun s h1 h2 => by
    unfold ofR; rw [if_pos (by rw [eachN_len (Nat.le_refl _)]; exact h2)]
    simp [eachN, List.getD_eq_getElem?_getD, show s.toNat < l.length by omega]
  refine ⟨fun out o h => ?_, fun out h hk => ?_⟩
  · unfold subL at h
    split at h
    · rename_i hc
      have hy := hl (l.getD t.server.toNat default) (getD_mem (by omega))
      have hg := size_grow (mk := mk) (sub := sub0) hy (c := 1000) (by decide) (fun j hj => sub0_okR (hy.node j hj).srv.1) out
      rw [← Option.some.inj h, e _ h0 hc.2]
      exact ⟨hc.1, hg.1, hg.2⟩
    · cases h
  · unfold subL at h
    split at h
    · cases h
    · rename_i hc
      unfold ofR; rw [if_neg (fun h2 => hc ⟨hk, by rw [eachN_len (Nat.le_refl _)] at h2; exact h2⟩)]
theorem big_iff (hx : XOk x) (hl : ∀ y ∈ l, XOk y) : 60 < size 1000 (ofR (eachN l l.length)) x ↔ 61 ≤ size 61 (ofP l) x := by
  have h1 := size_grow (mk := mkR) hx (c := 1000) (by decide) (fun j hj => subL_okR (mk := mkR) hl (hx.node j hj).srv.1) []
  have h2 := size_grow (mk := mkR) hx (c := 61) (by decide) (fun j hj => subL_ok (mk := mkR) hl (hx.node j hj).srv.1) []
  omega
def rsI (x : Ex) (l : List Ex) (zl : Bool) (L : Nat) (j : {j : Nat // j ≤ L ∧ listE (l.take j) = 0}) : St :=
  ⟨66, 0, [(1,.isl zl (cR l) L), (2,.pt 0 0), (4,.pt 1 0), (7,nilOr j.val 2 1), (8,.val (.int .i64 j.val))],
   [(0, some (.cells (Cells.cells x) 50)), (1, some (.cells [.isl true [] 0, .val (.int .i64 0)] 50))] ++ nilOb j.val 2 (cI .i64 (eachN l j.val)) 3⟩
theorem sz_root {c : Int} {of : Int → Int} (h : XOk x) : (szA c of [] x.nodes).getD x.root.toNat default = size c of x := size_all h
theorem sz_get {c : Int} {of : Int → Int} (h : XOk x) : (szA c of [] x.nodes)[x.root.toNat]? = some (size c of x) := by
  have hl : x.root.toNat < (szA c of [] x.nodes).length := by rw [szA_len]; have := h.root; simp; omega
  rw [List.getElem?_eq_getElem hl, ← sz_root h, List.getD_eq_getElem?_getD, List.getElem?_eq_getElem hl, Option.getD_some]
theorem sz_getV {c : Int} {of : Int → Int} (h : validE x = 0) : (szA c of [] x.nodes)[x.root.toNat]? = some (size c of x) := sz_get (validE_ok h)
theorem root_or (x : Ex) : ¬ validE x = 0 ∨ (0 ≤ x.root ∧ x.root < x.nodes.length) := by
  by_cases h : validE x = 0
  · exact .inr (validE_ok h).root
  · exact .inl h
theorem sz1_def : size 1000 (ofR []) x = sz1 x := rfl
theorem rsubst_raw (hsh : Short x) (hls : ∀ y ∈ l, Short y) (hL : l.length = L) (hL2 : L ≤ 1000) :
    ACall Tryd.prog 56 [.agg (Cells.cells x), .isl zl (cR l) L] [] 0 (.tup [.agg (Cells.cells (subE mkR x l).1), .val (.int .i64 (subE mkR x l).2)]) [] := by
  have hW := fun (h : validE x = 0) (h2 : listE l = 0) (h3 : ¬ 61 ≤ size 61 (ofP l) x) => PLift.up ((G_l (zl := zl) (validE_ok h) (listE_ok h2) hL (by omega)).z (Nat.le_trans (growX_few (mk := mkR) (validE_ok h) (listE_ok h2) h3).1 (by omega)))
  have hfw := fun (h : validE x = 0) (h2 : listE l = 0) (h3 : ¬ 61 ≤ size 61 (ofP l) x) => growX_few (mk := mkR) (validE_ok h) (listE_ok h2) h3
  have hbig := fun (h : validE x = 0) (h2 : listE l = 0) => big_iff (validE_ok h) (listE_ok h2)
  rw [hL] at hbig
  have hb0 : L = 0 → validE x = 0 → listE l = 0 → (60 < sz1 x ↔ 61 ≤ size 61 (ofP l) x) := fun h0 h h2 => by have e := hbig h h2; rw [eachN_z h0] at e; exact e
  have hS1 := fun (j : Nat) (h : j < l.length) (h2 : validE (l.getD j default) = 0) => PLift.up (And.intro (sizes_ok (zl := true) (l := []) (validE_ok h2) (hls (l.getD j default) (getD_mem h)) rfl rfl (by simp) (by decide)) (And.intro (sz_get (c := 1000) (of := ofR []) (validE_ok h2)) (validE_ok h2).root))
  have hSz := fun (h : validE x = 0) (h2 : listE l = 0) => PLift.up (by
    have e := And.intro (sizes_ok (zl := false) (L := L) (validE_ok h) hsh rfl (by rw [eachN_len (Nat.le_refl _), hL]) (eachN_rng (j := l.length) (listE_ok h2)) (by omega)) (And.intro (sz_get (c := 1000) (of := ofR (eachN l l.length)) (validE_ok h)) (validE_ok h).root)
    rw [hL] at e; exact e)
  have hSz0 := fun (h : validE x = 0) => PLift.up (sizes_ok (zl := true) (l := []) (validE_ok h) hsh rfl rfl (by simp) (by decide))
  have hVl := fun (j : Nat) (h : j < l.length) => PLift.up (rvalid_ok (hls (l.getD j default) (getD_mem h)))
  have hVx := PLift.up (rvalid_ok hsh)
  change ∀ (h : validE x = 0) (h2 : listE l = 0) (h3 : ¬ 61 ≤ size 61 (ofP l) x), PLift (ACall _ _ _ _ _ (.sl 0 0 (growX mkR x l).length 5) [.cells (cR (growX mkR x l)) _]) at hW
  generalize hG : growX mkR x l = G at *
  have hr0 := root_or x
  clear hls
  refine ACall.enter Tryd.func56 rfl (by simp [Tryd.ntmps56]) (by simp) ?_; simp only [entry, idx, Tryd.ntmps56, List.length, List.map_cons, List.map_nil, List.append_nil, List.cons_append, List.nil_append, Nat.reduceAdd, Nat.zero_add, List.length_cons, List.length_nil]
  repeat' (first | ((first | refine AC_frzS (r := 12) 2 ?_ | refine AC_frzR (r := 12) 2 ?_); simp -dsimp (disch := first | exact vD | fail) only [push_cast, simprocAttr, sz_getV, sz1_def, eachN_s, eachN_z, eachN_len, eachN_tk]; (repeat (refine aI ?_)); intro K hK; refine hK _ _ ?_; clear hK K) | (refine AC_loop_id ?_; refine AC_loop' [0,1,90] ([0,1,90].length) (rsI x l zl L) (fun j => L - j.val) (⟨0, by omega, rfl⟩) rfl (by unfold rsI; (try simp only [List.cons_append, List.nil_append]); refine Sub.mk2 ?_; (simp -dsimp (disch := first | exact vD | fail) only [push_cast, simprocAttr, sz_getV, sz1_def, eachN_s, eachN_z, eachN_len, eachN_tk]); (repeat (refine aI ?_)); (first | done | (first | exact vI | fail)); done) ?_; (rintro ⟨j, hj, he⟩; rcases Nat.eq_zero_or_pos j with h0 | h0 <;> rcases Nat.lt_or_eq_of_le hj with hjl | hjl <;> first | (have ej : L = j := hjl.symm; subst ej; rw [List.take_of_length_le (by omega)] at he; (simp -dsimp (disch := first | exact vD | fail) only [push_cast, simprocAttr, rsI])) | (have hr1 := root_or (l.getD j default); (simp -dsimp (disch := first | exact vD | fail) only [push_cast, simprocAttr, rsI])))) | (refine Nxt_id ?_; refine Nxt.mk [0,1,4] (⟨j + 1, by omega, listE_s (by omega) he (by omega)⟩) rfl (by unfold rsI; (try simp only [List.cons_append, List.nil_append]); refine Sub.mk2 ?_; (simp -dsimp (disch := first | exact vD | fail) only [push_cast, simprocAttr, sz_getV, sz1_def, eachN_s, eachN_z, eachN_len, eachN_tk]); (repeat (refine aI ?_)); (first | done | (first | exact vI | fail)); done) (by first | omega | (simp; done) | (simp; omega))) | (refine AC_seq ?_) | (refine AC_region_lit ?_) | ((first | refine AL_go rfl (fun K hK => ?_) | refine AL_go0 (fun K hK => ?_) | refine DG_run (fun K hK => ?_)); (first | refine R_callG (f := 63) (dst := some 12) [] 0 false ?_ | refine R_callG (f := 63) (dst := some 27) [] 0 false ?_ | refine R_callG (f := 80) (dst := some 37) [] 0 false ?_ | refine R_callG (f := 81) [] 0 false ?_); simp -dsimp (disch := first | exact vD | fail) only [push_cast, simprocAttr, sz_getV, sz1_def, eachN_s, eachN_z, eachN_len, eachN_tk]; (repeat (refine aI ?_)); intro G hG; refine hG _ _ ?_; clear hG G; (first | refine ⟨_, _, hVx.down, ?_⟩ | refine ⟨_, _, (hVl j (by omega)).down, ?_⟩ | refine ⟨_, _, (hS1 j (by omega) (by omega)).down.1, ?_⟩ | refine ⟨_, _, (hW (by omega) he (by omega)).down, ?_⟩); simp -dsimp (disch := first | exact vD | fail) only [push_cast, simprocAttr, sz_getV, sz1_def, eachN_s, eachN_z, eachN_len, eachN_tk]; (repeat (refine aI ?_)); (first | refine hK _ _ _ ?_ | refine hK _ _ ?_); clear hK K) | ((first | refine AL_go rfl (fun K hK => ?_) | refine AL_go0 (fun K hK => ?_) | refine DG_run (fun K hK => ?_)); (first | (refine R_callG (f := 80) (dst := some 49) [] 0 false ?_; simp -dsimp (disch := first | exact vD | fail) only [push_cast, simprocAttr, sz_getV, sz1_def, eachN_s, eachN_z, eachN_len, eachN_tk]; (repeat (refine aI ?_)); intro G hG; refine hG _ _ ?_; clear hG G; refine ⟨_, _, (hSz (by omega) he).down.1, ?_⟩; simp -dsimp (disch := first | exact vD | fail) only [push_cast, simprocAttr, sz_getV, sz1_def, eachN_s, eachN_z, eachN_len, eachN_tk]; (repeat (refine aI ?_)); (first | refine hK _ _ _ ?_ | refine hK _ _ ?_); clear hK K) | (refine R_callG (f := 80) (dst := some 49) [] 0 false ?_; simp -dsimp (disch := first | exact vD | fail) only [push_cast, simprocAttr, sz_getV, sz1_def, eachN_s, eachN_z, eachN_len, eachN_tk]; (repeat (refine aI ?_)); intro G hG; refine hG _ _ ?_; clear hG G; refine ⟨_, _, (hSz0 (by omega)).down, ?_⟩; simp -dsimp (disch := first | exact vD | fail) only [push_cast, simprocAttr, sz_getV, sz1_def, eachN_s, eachN_z, eachN_len, eachN_tk]; (repeat (refine aI ?_)); (first | refine hK _ _ _ ?_ | refine hK _ _ ?_); clear hK K))) | ((first | refine AL_go rfl (fun K hK => ?_) | refine AL_go0 (fun K hK => ?_) | refine DG_run (fun K hK => ?_)); (first | refine R_move _ ?_ | refine R_assign _ ?_ | refine Q_load _ _ ?_ | refine Q_loadAgg _ _ ?_ | refine Q_fieldAddr _ _ _ ?_ | refine Q_indexAddr _ _ _ ?_ | refine Q_indexArr _ _ _ ?_ | refine Q_len _ _ ?_ | refine Q_lenStr _ _ ?_ | refine Q_box _ _ ?_ | refine R_alloc _ ?_ | refine Q_store _ _ _ ?_ | refine Q_build _ _ ?_ | refine Q_buildArr _ _ ?_ | refine Q_buildSlice _ _ _ ?_ | refine Q_eqAgg _ _ _ _ ?_ | refine Q_neqAgg _ _ _ _ ?_ | refine Q_neqSelf _ _ _ _ ?_ | refine Q_bin _ _ _ _ _ ?_ | refine Q_appendNil _ _ _ ?_); simp -dsimp (disch := first | exact vD | fail) only [push_cast, simprocAttr, sz_getV, sz1_def, eachN_s, eachN_z, eachN_len, eachN_tk]; (repeat (refine aI ?_)); (first | refine hK _ _ _ ?_ | refine hK _ _ ?_); clear hK K) | ((first | refine AL_go rfl (fun K hK => ?_) | refine AL_go0 (fun K hK => ?_) | refine DG_run (fun K hK => ?_)); (first | refine Q_append _ _ _ ?_); simp -dsimp (disch := first | exact vD | fail) only [push_cast, simprocAttr, sz_getV, sz1_def, eachN_s, eachN_z, eachN_len, eachN_tk]; (repeat (refine aI ?_)); (first | refine hK _ _ _ ?_ | refine hK _ _ ?_); clear hK K) | ((first | refine AL_go rfl (fun K hK => ?_) | refine AL_go0 (fun K hK => ?_) | refine DG_run (fun K hK => ?_)); (first | refine Q_append00 _ _ _ ?_); simp -dsimp (disch := first | exact vD | fail) only [push_cast, simprocAttr, sz_getV, sz1_def, eachN_s, eachN_z, eachN_len, eachN_tk]; (repeat (refine aI ?_)); (first | refine hK _ _ _ ?_ | refine hK _ _ ?_); clear hK K) | ((first | refine AL_go rfl (fun K hK => ?_) | refine AL_go0 (fun K hK => ?_) | refine DG_run (fun K hK => ?_)); (first | refine Q_appendIn _ _ _ ?_); simp -dsimp (disch := first | exact vD | fail) only [push_cast, simprocAttr, sz_getV, sz1_def, eachN_s, eachN_z, eachN_len, eachN_tk]; (repeat (refine aI ?_)); (first | refine hK _ _ _ ?_ | refine hK _ _ ?_); clear hK K) | ((first | refine AL_guard rfl rfl (fun K1 K2 h1 h2 => ?_) rfl | refine AC_cond_k (fun K1 K2 h1 h2 => ?_) | refine DG_guard rfl rfl (fun K1 K2 h1 h2 => ?_)); simp -dsimp (disch := first | exact vD | fail) only [push_cast, simprocAttr, sz_getV, sz1_def, eachN_s, eachN_z, eachN_len, eachN_tk]; (first | (refine ⟨fun hc => ?_, fun hc => ?_⟩ <;> first | (exfalso; omega) | (exfalso; contradiction) | refine h1 ?_ | refine h2 ?_) | refine h1 ?_ | refine h2 ?_); all_goals clear h1 h2 K1 K2) | (refine AC_draw (id := 11) (by kernel_rfl) [⟨0, [], [33, 34, 35, 36, 37, 38, 39, 40, 41, 42, 43, 44, 45], [], [], 0⟩, ⟨1, [], [32, 34, 38, 39, 40, 41, 42], [], [], 0⟩, ⟨2, [], [32, 33, 38, 39, 40, 41, 42], [], [], 0⟩, ⟨3, [1, 2], [32, 38, 39, 40, 41, 42], [], [], 0⟩, ⟨4, [1, 2, 3], [32, 38, 39, 40, 41, 42], [], [], 0⟩, ⟨5, [1, 2, 3, 4], [32, 38, 39, 40, 41, 42], [], [], 0⟩, ⟨6, [], [32, 33, 34, 35, 36, 37, 39], [], [], 0⟩, ⟨7, [], [32, 33, 34, 35, 36, 37, 38], [], [], 0⟩, ⟨8, [6, 7], [32, 33, 34, 35, 36, 37], [], [], 0⟩, ⟨9, [6, 7, 8], [32, 33, 34, 35, 36, 37], [], [], 0⟩, ⟨10, [6, 7, 8, 9], [32, 33, 34, 35, 36, 37], [], [], 0⟩, ⟨11, [1, 2, 3, 4, 5, 6, 7, 8, 9, 10], [32], [], [], 0⟩, ⟨12, [1, 2, 3, 4, 5, 6, 7, 8, 9, 10, 11], [32], [], [], 0⟩, ⟨13, [1, 2, 3, 4, 5, 6, 7, 8, 9, 10, 11, 12], [32], [], [], 1⟩, ⟨14, [0, 1, 2, 3, 4, 5, 6, 7, 8, 9, 10, 11, 12, 13], [], [], [2], 1⟩, ⟨15, [0, 1, 2, 3, 4, 5, 6, 7, 8, 9, 10, 11, 12, 13, 14], [], [], [], 0⟩] (by kernel_rfl) (by kernel_rfl) (by kernel_rfl) ?_) | (refine AC_draw (id := 12) (by kernel_rfl) [⟨0, [], [48, 50, 51], [], [], 0⟩, ⟨1, [], [47, 50, 51], [], [], 0⟩, ⟨2, [0, 1], [50, 51], [], [], 0⟩, ⟨3, [], [47, 48, 49], [], [], 0⟩, ⟨4, [3], [47, 48, 49], [], [], 0⟩, ⟨5, [0, 1, 2, 3, 4], [], [], [], 0⟩, ⟨6, [0, 1, 2, 3, 4, 5], [], [], [], 0⟩, ⟨7, [0, 1, 2, 3, 4, 5, 6], [], [], [], 0⟩] (by kernel_rfl) (by kernel_rfl) (by kernel_rfl) ?_) | ((first | refine DG_next' (by kernel_rfl) (fun K hK => ?_) | refine DG_nil (by kernel_rfl) (fun K hK => ?_)); simp only [↓Go.Sy.dsnE_some, ↓Go.Sy.dsnE_none, ↓Go.Sy.dsnE_nil, ↓Go.Sy.dsnO_snoc, ↓Go.Sy.dsnO_nil, ↓Go.Sy.nidAt_snoc, ↓Go.Sy.nidAt_nil, push_cast, Nat.reduceLeDiff, Nat.reduceSub, Nat.reduceBEq, Nat.reduceEqDiff, Nat.reduceAdd, Nat.reduceLT, ↓reduceIte, reduceCtorEq]; refine hK _ _ _ ?_; clear hK K) | (refine DG_go ?_) | (refine AL_nil ?_) | (refine Thn_normal ?_) | (refine Thn_ret ?_) | (refine Thn_exit ?_) | (refine Blk_normal ?_) | (refine Blk_ret ?_) | (refine Blk_here ?_) | (refine Blk_other rfl ?_) | (refine AC_block ?_) | (refine AC_exit ?_) | (refine AC_skip ?_) | (refine AC_ret ?_))
  all_goals first
    | (have e := subE_1 (mk := mkR) (x := x) (l := l) (by omega); (refine Ends.mk2 (by first | exact .inr rfl | exact .inl rfl) [] ?_; simp -dsimp (disch := first | exact vD | fail) only [push_cast, simprocAttr, Tryd.f56, e, ex_dflt']; (repeat (refine aI ?_)); try (first | exact vI | fail)); done)
    | (have e := subE_2 (mk := mkR) (x := x) (l := l) (by omega) (by rw [listE_bad (j := j) (by omega) he (by omega)]; omega); rw [listE_bad (j := j) (by omega) he (by omega)] at e; (refine Ends.mk2 (by first | exact .inr rfl | exact .inl rfl) [] ?_; simp -dsimp (disch := first | exact vD | fail) only [push_cast, simprocAttr, Tryd.f56, e, ex_dflt']; (repeat (refine aI ?_)); try (first | exact vI | fail)); done)
    | (have e := subE_3 (mk := mkR) (x := x) (l := l) (by omega) he (by omega); (refine Ends.mk2 (by first | exact .inr rfl | exact .inl rfl) [] ?_; simp -dsimp (disch := first | exact vD | fail) only [push_cast, simprocAttr, Tryd.f56, e, ex_dflt']; (repeat (refine aI ?_)); try (first | exact vI | fail)); done)
    | (have e := subE_4 (mk := mkR) (x := x) (l := l) (by omega) he (by omega); rw [hG] at e; ((refine Ends.frz 3 ?_; simp -dsimp (disch := first | exact vD | fail) only [push_cast, simprocAttr, Tryd.f56, e, ex_cells, List.take_length]; (repeat (refine aI ?_)); intro K hK; refine hK _ _ ?_; clear hK K); refine Ends.mk2 (by first | exact .inr rfl | exact .inl rfl) [] ?_; simp -dsimp (disch := first | exact vD | fail) only [push_cast, simprocAttr, Tryd.f56, e, ex_cells, List.take_length]; (repeat (refine aI ?_)); try (first | exact vI | fail)); done)
    | (have e := subE_4 (mk := mkR) (x := x) (l := l) (by omega) he (by omega); rw [hG] at e; ((refine Ends.frz 2 ?_; simp -dsimp (disch := first | exact vD | fail) only [push_cast, simprocAttr, Tryd.f56, e, ex_cells, List.take_length]; (repeat (refine aI ?_)); intro K hK; refine hK _ _ ?_; clear hK K); refine Ends.mk2 (by first | exact .inr rfl | exact .inl rfl) [] ?_; simp -dsimp (disch := first | exact vD | fail) only [push_cast, simprocAttr, Tryd.f56, e, ex_cells, List.take_length]; (repeat (refine aI ?_)); try (first | exact vI | fail)); done)
end Go.Proofs.YtgnkcohlfdddnaaDoor
