/- Diagrams: the reference's Equal, value, Table, From. No condition. -/
import Derived.Test.YtebinjcofclfaaaDoorDi3
import Derived.Test.YtebinjcofclfaaaDoorDgA
import Derived.Test.YtebinjcofclfaaaDoorEcA
set_option linter.unusedVariables false
set_option linter.unusedSectionVars false
set_option linter.unusedSimpArgs false
set_option maxHeartbeats 4000000
set_option maxRecDepth 20000
namespace Go.Proofs.YtebinjcofclfaaaDoor
open Go Go.Sy Go.Dg
attribute [local irreducible] AO AL AC OpT ACall Ends DGo DRun Thn Blk Nxt
structure Fk where
  v : Int
  lo : Int
  hi : Int
deriving DecidableEq
instance : Inhabited Fk := ⟨⟨0, 0, 0⟩⟩
instance : Cells Fk 3 := ⟨fun x => [.val (.int .i64 x.v), .val (.int .i64 x.lo), .val (.int .i64 x.hi)], fun _ => rfl, fun _ => rfl, fun _ => rfl⟩
def fk (f : Fo) : Fk := ⟨f.v, f.lo, f.hi⟩
theorem cR_fk {F : List Fo} : cR (F.map fk) = cR F := by
  induction F with
  | nil => rfl
  | cons f F ih => rw [List.map_cons, cR_cons, cR_cons, ih]; rfl
variable {N N' : Nat} {F F1 F2 G : List Fo} {L L' : List Fk} {v lo hi n k k1 k2 k' i m s t a b r : Nat} {p q p' q' : Int} {z z' : Bool} {x y : Fk}
theorem fk_cells (x : Fk) : Cells.cells x = [.val (.int .i64 x.v), .val (.int .i64 x.lo), .val (.int .i64 x.hi)] := rfl
theorem fo_cells (x : Fo) : Cells.cells x = [.val (.int .i64 x.v), .val (.int .i64 x.lo), .val (.int .i64 x.hi)] := rfl
def rgV (z : Bool) (n : Int) (L : List Fk) (r : Int) : AV := .agg [.val (.int .i64 n), .isl z (cR L) L.length, .val (.int .i64 r)]
theorem rgV_dg : dgV z n F r = rgV z n (F.map fk) r := by unfold dgV rgV; rw [cR_fk, List.length_map]
def eqI3 (i : Nat) (L L' : List Fk) : Prop := ∀ j, j < i → L.getD j default = L'.getD j default
def eqSt (z z' : Bool) (p q : Int) (L L' : List Fk) (N : Nat) (i : {i : Nat // i ≤ N ∧ eqI3 i L L'}) : St :=
  ⟨45, 0, [(2,.pt 0 0), (3,.pt 1 0), (5,.val (.int .i64 i.val))], [(0, some (.cells [.val (.int .i64 p), .isl z (cR L) N, .val (.int .i64 q)] 28)), (1, some (.cells [.val (.int .i64 p), .isl z' (cR L') N, .val (.int .i64 q)] 28))]⟩
theorem eqI3_s (h : eqI3 i L L') (h2 : L.getD i default = L'.getD i default) : eqI3 (i + 1) L L' := fun j hj => by
  by_cases e : j = i
  · subst e; exact h2
  · exact h j (by omega)
theorem eqI3_end (h : eqI3 k L L') (hL : L.length = k) (hL' : L'.length = k) : L = L' := by
  apply List.ext_getElem (by omega)
  intro j h1 h2
  have := h j (by omega)
  rw [List.getD_eq_getElem?_getD, List.getElem?_eq_getElem h1, List.getD_eq_getElem?_getD, List.getElem?_eq_getElem h2] at this
  exact this
theorem eqI_fk : eqI [x.v, x.lo, x.hi] [y.v, y.lo, y.hi] = decide (x = y) := by
  rw [eqI_eq]
  congr 1
  cases x; cases y; simp
theorem equal_in {N : Nat} (hL : L.length = N) (hL' : L'.length = N) (hN : N < 2 ^ 50) : ACall Tryd.prog 24 [.agg [.val (.int .i64 p), .isl z (cR L) N, .val (.int .i64 q)], .agg [.val (.int .i64 p), .isl z' (cR L') N, .val (.int .i64 q)]] [] 0 (.val (.bool (decide (L = L')))) [] := by
  have hx := dmy_def
  refine ACall.enter Tryd.func24 rfl (by simp [Tryd.ntmps24]) (by simp) ?_; simp only [entry, idx, Tryd.ntmps24, List.length, List.map_cons, List.map_nil, List.append_nil, List.cons_append, List.nil_append, Nat.reduceAdd, Nat.zero_add, List.length_cons, List.length_nil]
  repeat' (first | (refine AC_loop_id ?_; refine AC_loop' [0, 1] ([0, 1].length) (eqSt z z' p q L L' N) (fun i => N - i.val) (⟨0, by omega, fun j hj => absurd hj (by omega)⟩) rfl (by unfold eqSt; (try simp only [List.cons_append, List.nil_append]); refine Sub.mk2 ?_; (simp -dsimp (disch := try exact vD) only [push_cast, simprocAttr, hx, eqI_fk, fk_cells]); (repeat refine aI ?_); first | done | exact vI) ?_; (rintro ⟨i, hi, he⟩; rcases Nat.lt_or_eq_of_le hi with hil | hil <;> first | (have ei : N = i := hil.symm; subst ei; (simp -dsimp (disch := try exact vD) only [push_cast, simprocAttr, eqSt])) | (rcases Decidable.em (L.getD i default = L'.getD i default) with hx | hx <;> (simp -dsimp (disch := try exact vD) only [push_cast, simprocAttr, eqSt])))) | (refine Nxt_id ?_; refine Nxt.mk [0, 1] (⟨i + 1, by omega, eqI3_s he hx⟩) rfl (by unfold eqSt; (try simp only [List.cons_append, List.nil_append]); refine Sub.mk2 ?_; (simp -dsimp (disch := try exact vD) only [push_cast, simprocAttr, hx, eqI_fk, fk_cells]); (repeat refine aI ?_); first | done | exact vI) (by first | omega | (dsimp only; omega) | (simp; done) | (simp; omega))) | apply AC_seq | apply AC_region_lit | ((first | refine AL_go rfl (fun K hK => ?_) | refine AL_go0 (fun K hK => ?_) | refine DG_run (fun K hK => ?_)); (first | apply R_move | apply R_assign | apply Q_load | apply Q_loadAgg | apply Q_fieldAddr | apply Q_indexAddr | apply Q_indexArr | apply Q_len | apply Q_lenStr | apply Q_pick | apply Q_box | apply Q_eqAgg | apply Q_neqAgg | apply Q_neqSelf | apply Q_bin); simp -dsimp (disch := try exact vD) only [push_cast, simprocAttr, hx, eqI_fk, fk_cells]; (repeat refine aI ?_); apply hK; clear hK K) | ((first | refine AL_guard rfl rfl (fun K1 K2 h1 h2 => ?_) rfl | refine AC_cond_k (fun K1 K2 h1 h2 => ?_) | refine DG_guard rfl rfl (fun K1 K2 h1 h2 => ?_)); simp -dsimp (disch := try exact vD) only [push_cast, simprocAttr, hx, eqI_fk, fk_cells]; (first | (refine ⟨fun hc => ?_, fun hc => ?_⟩ <;> first | (exfalso; omega) | (exfalso; contradiction) | refine h1 ?_ | refine h2 ?_) | refine h1 ?_ | refine h2 ?_); all_goals clear h1 h2 K1 K2) | (refine AC_draw (id := 6) (by kernel_rfl) [⟨0, [], [36, 39, 40, 41, 42, 43], [], [], 0⟩, ⟨1, [0], [36, 39, 40, 41, 42, 43], [], [], 0⟩, ⟨2, [], [34, 35, 39, 40, 41, 42, 43], [], [], 0⟩, ⟨3, [0, 1, 2], [39, 40, 41, 42, 43], [], [], 0⟩, ⟨4, [0, 1, 2, 3], [39, 40, 41, 42, 43], [], [], 0⟩, ⟨5, [], [34, 35, 36, 37, 38, 41], [], [], 0⟩, ⟨6, [5], [34, 35, 36, 37, 38, 41], [], [], 0⟩, ⟨7, [], [34, 35, 36, 37, 38, 39, 40], [], [], 0⟩, ⟨8, [5, 6, 7], [34, 35, 36, 37, 38], [], [], 0⟩, ⟨9, [5, 6, 7, 8], [34, 35, 36, 37, 38], [], [], 0⟩, ⟨10, [0, 1, 2, 3, 4, 5, 6, 7, 8, 9], [], [], [], 0⟩] (by kernel_rfl) (by kernel_rfl) (by kernel_rfl) ?_) | ((first | refine DG_next' (by kernel_rfl) (fun K hK => ?_) | refine DG_nil (by kernel_rfl) (fun K hK => ?_)); simp only [↓Go.Sy.dsnE_some, ↓Go.Sy.dsnE_none, ↓Go.Sy.dsnE_nil, ↓Go.Sy.dsnO_snoc, ↓Go.Sy.dsnO_nil, ↓Go.Sy.nidAt_snoc, ↓Go.Sy.nidAt_nil, push_cast, Nat.reduceLeDiff, Nat.reduceSub, Nat.reduceBEq, Nat.reduceEqDiff, Nat.reduceAdd, Nat.reduceLT, ↓reduceIte, reduceCtorEq]; refine hK _ _ _ ?_; clear hK K) | apply DG_go | apply AL_nil | apply Thn_normal | apply Thn_ret | apply Thn_exit | apply Blk_normal | apply Blk_ret | apply Blk_here | (refine Blk_other rfl ?_) | apply AC_block | apply AC_exit | apply AC_skip | apply AC_ret)
  all_goals first
    | (have e : L = L' := eqI3_end he hL hL'; rw [decide_eq_true e]; (refine Ends.mk2 (by first | exact .inr rfl | exact .inl rfl) [] ?_; simp -dsimp (disch := try exact vD) only [push_cast, simprocAttr, Tryd.f24]; (repeat refine aI ?_); try (first | exact vI | fail)); done)
    | (have e : ¬ L = L' := (fun e => hx (by rw [e])); rw [decide_eq_false e]; (refine Ends.mk2 (by first | exact .inr rfl | exact .inl rfl) [] ?_; simp -dsimp (disch := try exact vD) only [push_cast, simprocAttr, Tryd.f24]; (repeat refine aI ?_); try (first | exact vI | fail)); done)
    | trace_state
theorem equal_out {N N' : Nat} (h : ¬ (p = p' ∧ q = q' ∧ N = N')) : ACall Tryd.prog 24 [.agg [.val (.int .i64 p), .isl z (cR L) N, .val (.int .i64 q)], .agg [.val (.int .i64 p'), .isl z' (cR L') N', .val (.int .i64 q')]] [] 0 (.val (.bool false)) [] := by
  have hp := dmy_def; have hq := dmy_def; have hl := dmy_def
  rcases Decidable.em (p = p') with hp | hp <;> rcases Decidable.em (q = q') with hq | hq <;> rcases Decidable.em (N = N') with hl | hl
  all_goals try (exact absurd (And.intro hp (And.intro hq hl)) h)
  all_goals clear h
  all_goals (refine ACall.enter Tryd.func24 rfl (by simp [Tryd.ntmps24]) (by simp) ?_; simp only [entry, idx, Tryd.ntmps24, List.length, List.map_cons, List.map_nil, List.append_nil, List.cons_append, List.nil_append, Nat.reduceAdd, Nat.zero_add, List.length_cons, List.length_nil])
  all_goals repeat' (first | apply AC_seq | apply AC_region_lit | ((first | refine AL_go rfl (fun K hK => ?_) | refine AL_go0 (fun K hK => ?_) | refine DG_run (fun K hK => ?_)); (first | apply R_move | apply R_assign | apply Q_load | apply Q_loadAgg | apply Q_fieldAddr | apply Q_indexAddr | apply Q_indexArr | apply Q_len | apply Q_lenStr | apply Q_pick | apply Q_box | apply Q_eqAgg | apply Q_neqAgg | apply Q_neqSelf | apply Q_bin); simp -dsimp (disch := try exact vD) only [push_cast, simprocAttr, hp, hq, hl]; (repeat refine aI ?_); apply hK; clear hK K) | ((first | refine AL_guard rfl rfl (fun K1 K2 h1 h2 => ?_) rfl | refine AC_cond_k (fun K1 K2 h1 h2 => ?_) | refine DG_guard rfl rfl (fun K1 K2 h1 h2 => ?_)); simp -dsimp (disch := try exact vD) only [push_cast, simprocAttr, hp, hq, hl]; (first | (refine ⟨fun hc => ?_, fun hc => ?_⟩ <;> first | (exfalso; omega) | (exfalso; contradiction) | refine h1 ?_ | refine h2 ?_) | refine h1 ?_ | refine h2 ?_); all_goals clear h1 h2 K1 K2) | (refine AC_draw (id := 6) (by kernel_rfl) [⟨0, [], [36, 39, 40, 41, 42, 43], [], [], 0⟩, ⟨1, [0], [36, 39, 40, 41, 42, 43], [], [], 0⟩, ⟨2, [], [34, 35, 39, 40, 41, 42, 43], [], [], 0⟩, ⟨3, [0, 1, 2], [39, 40, 41, 42, 43], [], [], 0⟩, ⟨4, [0, 1, 2, 3], [39, 40, 41, 42, 43], [], [], 0⟩, ⟨5, [], [34, 35, 36, 37, 38, 41], [], [], 0⟩, ⟨6, [5], [34, 35, 36, 37, 38, 41], [], [], 0⟩, ⟨7, [], [34, 35, 36, 37, 38, 39, 40], [], [], 0⟩, ⟨8, [5, 6, 7], [34, 35, 36, 37, 38], [], [], 0⟩, ⟨9, [5, 6, 7, 8], [34, 35, 36, 37, 38], [], [], 0⟩, ⟨10, [0, 1, 2, 3, 4, 5, 6, 7, 8, 9], [], [], [], 0⟩] (by kernel_rfl) (by kernel_rfl) (by kernel_rfl) ?_) | ((first | refine DG_next' (by kernel_rfl) (fun K hK => ?_) | refine DG_nil (by kernel_rfl) (fun K hK => ?_)); simp only [↓Go.Sy.dsnE_some, ↓Go.Sy.dsnE_none, ↓Go.Sy.dsnE_nil, ↓Go.Sy.dsnO_snoc, ↓Go.Sy.dsnO_nil, ↓Go.Sy.nidAt_snoc, ↓Go.Sy.nidAt_nil, push_cast, Nat.reduceLeDiff, Nat.reduceSub, Nat.reduceBEq, Nat.reduceEqDiff, Nat.reduceAdd, Nat.reduceLT, ↓reduceIte, reduceCtorEq]; refine hK _ _ _ ?_; clear hK K) | apply DG_go | apply AL_nil | apply Thn_normal | apply Thn_ret | apply Thn_exit | apply Blk_normal | apply Blk_ret | apply Blk_here | (refine Blk_other rfl ?_) | apply AC_block | apply AC_exit | apply AC_skip | apply AC_ret)
  all_goals ((refine Ends.mk2 (by first | exact .inr rfl | exact .inl rfl) [] ?_; simp -dsimp (disch := try exact vD) only [push_cast, simprocAttr, Tryd.f24]; (repeat refine aI ?_); try (first | exact vI | fail)))
theorem equal_ok (hL : L.length < 2 ^ 50) : ACall Tryd.prog 24 [rgV z p L q, rgV z' p' L' q'] [] 0 (.val (.bool (decide (p = p' ∧ q = q' ∧ L = L')))) [] := by
  unfold rgV
  by_cases h : p = p' ∧ q = q' ∧ L.length = L'.length
  · obtain ⟨rfl, rfl, h⟩ := h
    have := equal_in (p := p) (q := q) (z := z) (z' := z') (L := L) (L' := L') (N := L'.length) h rfl (by omega)
    rw [h]
    simpa using this
  · have e : ¬ (p = p' ∧ q = q' ∧ L = L') := fun e => h ⟨e.1, e.2.1, by rw [e.2.2]⟩
    rw [decide_eq_false e]
    exact equal_out h
theorem equal_self (hL : L.length < 2 ^ 50) : ACall Tryd.prog 24 [rgV z p L q, rgV z' p L q] [] 0 (.val (.bool true)) [] := by
  have := equal_ok (z := z) (z' := z') (p := p) (p' := p) (q := q) (q' := q) (L := L) (L' := L) hL
  simpa using this
theorem rhas_ok (hn : n < 16) : ACall Tryd.prog 79 [.val (.int .u16 (U s)), .val (.int .i64 n)] [] 0 (.val (.bool (bit s n))) [] := by
  refine ACall.enter Tryd.func79 rfl (by simp [Tryd.ntmps79]) (by simp) ?_; simp only [entry, idx, Tryd.ntmps79, List.length, List.map_cons, List.map_nil, List.append_nil, List.cons_append, List.nil_append, Nat.reduceAdd, Nat.zero_add, List.length_cons, List.length_nil]
  repeat' (first | apply AC_seq | apply AC_region_lit | ((first | refine AL_go rfl (fun K hK => ?_) | refine AL_go0 (fun K hK => ?_)); (first | apply R_move | apply R_assign | apply Q_pick | apply Q_eqAgg | apply Q_neqAgg | apply Q_neqSelf | apply Q_bin); simp -dsimp (disch := try exact vD) only [push_cast, simprocAttr]; (repeat refine aI ?_); apply hK; clear hK K) | ((first | refine AL_guard rfl rfl (fun K1 K2 h1 h2 => ?_) rfl | refine AC_cond_k (fun K1 K2 h1 h2 => ?_)); simp -dsimp (disch := try exact vD) only [push_cast, simprocAttr]; (first | (refine ⟨fun hc => ?_, fun hc => ?_⟩ <;> first | (exfalso; omega) | (exfalso; contradiction) | refine h1 ?_ | refine h2 ?_) | refine h1 ?_ | refine h2 ?_); all_goals clear h1 h2 K1 K2) | apply AL_nil | apply Thn_normal | apply Thn_ret | apply Thn_exit | apply Blk_normal | apply Blk_ret | apply Blk_here | (refine Blk_other rfl ?_) | apply AC_block | apply AC_exit | apply AC_skip | apply AC_ret)
  all_goals (refine Ends.mk2 (by first | exact .inr rfl | exact .inl rfl) [] ?_; simp -dsimp (disch := try exact vD) only [push_cast, simprocAttr, Tryd.f79]; (repeat refine aI ?_); try (first | exact vI | fail))
theorem bit_tb (h : s < 65536) : bit s n = s.testBit n := by unfold bit; rw [Nat.mod_eq_of_lt h]
theorem sub12 (x : Int) : x + 1 + 1 - 2 = x := by omega
theorem ne12 (x : Nat) : ((x : Int) + 1 + 1 = 1) = False := eq_false (by omega)
def vlI (z : Bool) (p q : Int) (F : List Fo) (N t : Nat) (v : Bool) (r : {r : Nat // valN F t r = v ∧ r < 2 ^ 50}) : St :=
  ⟨34, 0, [(1,.val (.int .i64 r.val)), (2,.val (.int .u16 (U t))), (3,.pt 0 0)], [(0, some (.cells [.val (.int .i64 p), .isl z (cR F) N, .val (.int .i64 q)] 28))]⟩
theorem value_ok (hb : Bnd F) (h16 : ∀ k, k < F.length → (F.getD k default).v < 16) (hN : F.length = N) (hN2 : N < 2 ^ 40) (hr : r < 2 ^ 50) (ht : t < 65536) : ACall Tryd.prog 48 [.agg [.val (.int .i64 p), .isl z (cR F) N, .val (.int .i64 q)], .val (.int .i64 r), .val (.int .u16 (U t))] [] 0 (.val (.bool (valN F t r))) [] := by
  have hx := dmy_def; have hy := dmy_def
  generalize hv : valN F t r = v
  refine ACall.enter Tryd.func48 rfl (by simp [Tryd.ntmps48]) (by simp) ?_; simp only [entry, idx, Tryd.ntmps48, List.length, List.map_cons, List.map_nil, List.append_nil, List.cons_append, List.nil_append, Nat.reduceAdd, Nat.zero_add, List.length_cons, List.length_nil]
  repeat' (first | (refine AC_loop_id ?_; refine AC_loop' [0] ([0].length) (vlI z p q F N t v) (fun r => r.val) (⟨r, hv, hr⟩) rfl (by unfold vlI; (try simp only [List.cons_append, List.nil_append]); refine Sub.mk2 ?_; (simp -dsimp (disch := try exact vD) only [push_cast, simprocAttr, hx, hy, fo_cells, sub12, ne12]); (repeat refine aI ?_); first | done | exact vI) ?_; (rintro ⟨r1, hv1, hr1⟩; rcases Nat.lt_or_ge r1 2 with h2 | h2 <;> first | (have hh : 2 ≤ r1 := h2; obtain ⟨k, rfl⟩ : ∃ k, r1 = k + 2 := ⟨r1 - 2, by omega⟩; have hbk : k < N → (F.getD k default).lo < k + 2 ∧ (F.getD k default).hi < k + 2 := (fun h => hb k (by omega)); rcases Nat.lt_or_ge k N with h3 | h3 <;> rcases Bool.eq_false_or_eq_true (bit t (F.getD k default).v) with hy | hy <;> (try (replace hbk := hbk h3)) <;> (simp -dsimp (disch := try exact vD) only [push_cast, simprocAttr, vlI])) | (simp -dsimp (disch := try exact vD) only [push_cast, simprocAttr, vlI]))) | (refine Nxt_id ?_; refine Nxt.mk [0] (⟨(F.getD k default).hi, by rw [← hv1, valN_geB (r := k + 2) hb (by omega) (by omega), Nat.add_sub_cancel, ← bit_tb ht, hy]; rfl, by omega⟩) rfl (by unfold vlI; (try simp only [List.cons_append, List.nil_append]); refine Sub.mk2 ?_; (simp -dsimp (disch := try exact vD) only [push_cast, simprocAttr, hx, hy, fo_cells, sub12, ne12]); (repeat refine aI ?_); first | done | exact vI) (by first | omega | (dsimp only; omega) | (simp; done) | (simp; omega))) | (refine Nxt_id ?_; refine Nxt.mk [0] (⟨(F.getD k default).lo, by rw [← hv1, valN_geB (r := k + 2) hb (by omega) (by omega), Nat.add_sub_cancel, ← bit_tb ht, hy]; rfl, by omega⟩) rfl (by unfold vlI; (try simp only [List.cons_append, List.nil_append]); refine Sub.mk2 ?_; (simp -dsimp (disch := try exact vD) only [push_cast, simprocAttr, hx, hy, fo_cells, sub12, ne12]); (repeat refine aI ?_); first | done | exact vI) (by first | omega | (dsimp only; omega) | (simp; done) | (simp; omega))) | apply AC_seq | apply AC_region_lit | ((first | refine AL_go rfl (fun K hK => ?_) | refine AL_go0 (fun K hK => ?_)); (first | refine R_callG (f := 79) [] 0 false ?_); simp -dsimp (disch := try exact vD) only [push_cast, simprocAttr, hx, hy, fo_cells, sub12, ne12]; (repeat refine aI ?_); intro G hG; refine hG _ _ ?_; clear hG G; (first | refine ⟨_, _, rhas_ok (s := t) (n := (F.getD k default).v) (h16 k (by omega)), ?_⟩); simp -dsimp (disch := try exact vD) only [push_cast, simprocAttr, hx, hy, fo_cells, sub12, ne12]; (repeat refine aI ?_); apply hK; clear hK K) | ((first | refine AL_go rfl (fun K hK => ?_) | refine AL_go0 (fun K hK => ?_)); (first | apply R_move | apply R_assign | apply Q_load | apply Q_loadAgg | apply Q_fieldAddr | apply Q_indexAddr | apply Q_indexArr | apply Q_len | apply Q_lenStr | apply Q_pick | apply Q_box | apply R_alloc | apply Q_store | apply Q_eqAgg | apply Q_neqAgg | apply Q_neqSelf | apply Q_bin); simp -dsimp (disch := try exact vD) only [push_cast, simprocAttr, hx, hy, fo_cells, sub12, ne12]; (repeat refine aI ?_); apply hK; clear hK K) | ((first | refine AL_guard rfl rfl (fun K1 K2 h1 h2 => ?_) rfl | refine AC_cond_k (fun K1 K2 h1 h2 => ?_)); simp -dsimp (disch := try exact vD) only [push_cast, simprocAttr, hx, hy, fo_cells, sub12, ne12]; (first | (refine ⟨fun hc => ?_, fun hc => ?_⟩ <;> first | (exfalso; omega) | (exfalso; contradiction) | refine h1 ?_ | refine h2 ?_) | refine h1 ?_ | refine h2 ?_); all_goals clear h1 h2 K1 K2) | apply AL_nil | apply Thn_normal | apply Thn_ret | apply Thn_exit | apply Blk_normal | apply Blk_ret | apply Blk_here | (refine Blk_other rfl ?_) | apply AC_block | apply AC_exit | apply AC_skip | apply AC_ret)
  all_goals first
    | (have e : v = decide ((r1 : Int) = 1) := (by rw [← hv1, valN_lt (by omega)]; exact decide_eq_decide.2 ⟨fun h => by omega, fun h => by omega⟩); rw [e]; (refine Ends.mk2 (by first | exact .inr rfl | exact .inl rfl) [] ?_; simp -dsimp (disch := try exact vD) only [push_cast, simprocAttr, Tryd.f48]; (repeat refine aI ?_); try (first | exact vI | fail)); done)
    | (have e : v = false := (by rw [← hv1]; exact valN_out hb (by omega)); rw [e]; (refine Ends.mk2 (by first | exact .inr rfl | exact .inl rfl) [] ?_; simp -dsimp (disch := try exact vD) only [push_cast, simprocAttr, Tryd.f48, ne12]; (repeat refine aI ?_); try (first | exact vI | fail)); done)
    | trace_state
end Go.Proofs.YtebinjcofclfaaaDoor
