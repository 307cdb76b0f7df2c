/- Federated lists: Valid, and the error of a list and a set, both sides. No condition. -/
import Derived.Test.YtgnkcohlfdddnaaDoorFe3
import Derived.Test.YtgnkcohlfdddnaaDoorBpB
import Derived.Test.YtgnkcohlfdddnaaDoorBu17
import Derived.Test.YtgnkcohlfdddnaaDoorBu14
set_option linter.unusedVariables false
set_option linter.unusedSectionVars false
set_option linter.unusedSimpArgs false
set_option maxHeartbeats 2000000
set_option maxRecDepth 20000
namespace Go.Proofs.YtgnkcohlfdddnaaDoor
open Go Go.Sy Go.Bp
attribute [local irreducible] AO AL AC OpT ACall Ends DGo DRun Thn Blk Nxt
variable {z zl : Bool} {n i j m q s r L : Nat} {a b : Int} {x : Ex} {t : Nd} {l : List Ex}
def farN (L : Nat) (t : Nd) : Bool := decide ((L : Int) ≤ t.server)
def farX (L : Nat) (x : Ex) : Bool := x.nodes.any (farN L)
def fvE (l : List Ex) : Int := if l.length = 0 then 9 else if 12 < l.length then 3 else if ¬ listE l = 0 then listE l else if l.any (farX l.length) = true then 7 else 0
theorem fvE_9 (h : l.length = 0) : fvE l = 9 := by unfold fvE; rw [if_pos h]
theorem fvE_3 (h : 12 < l.length) : fvE l = 3 := by unfold fvE; rw [if_neg (by omega), if_pos h]
theorem fvE_e (h1 : 0 < l.length) (h2 : l.length ≤ 12) (hj : j < l.length) (h : listE (l.take j) = 0) (hn : ¬ validE (l.getD j default) = 0) : fvE l = validE (l.getD j default) := by
  have e := listE_bad hj h hn
  unfold fvE; rw [if_neg (by omega), if_neg (by omega), if_pos (by rw [e]; exact hn), e]
theorem fvE_7 (h1 : 0 < l.length) (h2 : l.length ≤ 12) (h : listE l = 0) (hj : j < l.length) (hx : l.getD j default = x) (hi : i < x.nodes.length) (hf : (l.length : Int) ≤ (x.nodes.getD i default).server) : fvE l = 7 := by
  unfold fvE
  rw [if_neg (by omega), if_neg (by omega), if_neg (by rw [h]; simp), if_pos]
  refine any_hit hj ?_
  rw [hx]
  exact any_hit hi (show farN _ _ = true from decide_eq_true hf)
theorem fvE_0 (h1 : 0 < l.length) (h2 : l.length ≤ 12) (h : listE l = 0) (hf : l.any (farX l.length) = false) : fvE l = 0 := by
  unfold fvE; rw [if_neg (by omega), if_neg (by omega), if_neg (by rw [h]; simp), if_neg (by rw [hf]; simp)]
theorem anyT_s {α : Type} [Inhabited α] {p : α → Bool} {l : List α} (hj : j < l.length) (h : (l.take j).any p = false) (hp : p (l.getD j default) = false) : (l.take (j + 1)).any p = false := by
  rw [List.take_add_one, List.any_append, h]; simp [List.getElem?_eq_getElem hj, List.getD_eq_getElem?_getD] at hp ⊢; exact hp
def v1I (zl : Bool) (l : List Ex) (L : Nat) (j : {j : Nat // j ≤ L ∧ listE (l.take j) = 0}) : St :=
  ⟨50, 0, [(0,.isl zl (cR l) L), (18,.isl zl (cR l) L), (19,.val (.int .i64 L)), (20,.val (.int .i64 j.val))], []⟩
def v2I (zl : Bool) (l : List Ex) (L : Nat) (j : {j : Nat // j ≤ L ∧ (l.take j).any (farX L) = false}) : St :=
  ⟨50, 0, [(0,.isl zl (cR l) L), (30,.isl zl (cR l) L), (31,.val (.int .i64 L)), (32,.val (.int .i64 j.val))], []⟩
def v3I (zl : Bool) (l : List Ex) (L j : Nat) (x : Ex) (i : {i : Nat // i ≤ x.nodes.length ∧ (x.nodes.take i).any (farN L) = false}) : St :=
  ⟨50, 0, [(0,.isl zl (cR l) L), (30,.isl zl (cR l) L), (31,.val (.int .i64 L)), (32,.val (.int .i64 j)), (37,.isl x.nz (cR x.nodes) x.nodes.length), (38,.val (.int .i64 x.nodes.length)), (39,.val (.int .i64 i.val))], []⟩
theorem farN_f (h : ¬ (L : Int) ≤ t.server) : farN L t = false := by simp [farN]; omega
theorem fvalid_ok (hL : l.length = L) (hL2 : L < 2^40) (hs : ∀ i, i < L → Short (l.getD i default)) : ACall Tryd.prog 33 [.isl zl (cR l) L] [] 0 (.val (.int .i64 (fvE l))) [] := by
  have hx := dmy_def
  have hs := PLift.up hs
  refine ACall.enter Tryd.func33 rfl (by simp [Tryd.ntmps33]) (by simp) ?_; simp only [entry, idx, Tryd.ntmps33, List.length, List.map_cons, List.map_nil, List.append_nil, List.cons_append, List.nil_append, Nat.reduceAdd, Nat.zero_add, List.length_cons, List.length_nil]
  repeat' (first | (refine AC_loop_id ?_; refine AC_loop' [] ([].length) (v3I zl l L j x) (fun i => x.nodes.length - i.val) (⟨0, by omega, rfl⟩) rfl (by unfold v3I; (try simp only [List.cons_append, List.nil_append]); refine Sub.mk2 ?_; (simp -dsimp (disch := first | exact vD | fail) only [push_cast, simprocAttr, hx]); (repeat (refine aI ?_)); (first | done | (first | exact vI | fail)); done) ?_; (rintro ⟨i, hi, hf⟩; (simp -dsimp (disch := first | exact vD | fail) only [push_cast, simprocAttr, v3I]))) | (refine Nxt_id ?_; refine Nxt.mk [] (⟨i + 1, by omega, anyT_s (by omega) hf (farN_f (by omega))⟩) rfl (by unfold v3I; (try simp only [List.cons_append, List.nil_append]); refine Sub.mk2 ?_; (simp -dsimp (disch := first | exact vD | fail) only [push_cast, simprocAttr, hx]); (repeat (refine aI ?_)); (first | done | (first | exact vI | fail)); done) (by first | omega | (simp; done) | (simp; omega))) | (refine AC_loop_id ?_; refine AC_loop' [] ([].length) (v2I zl l L) (fun j => L - j.val) (⟨0, by omega, rfl⟩) rfl (by unfold v2I; (try simp only [List.cons_append, List.nil_append]); refine Sub.mk2 ?_; (simp -dsimp (disch := first | exact vD | fail) only [push_cast, simprocAttr, hx]); (repeat (refine aI ?_)); (first | done | (first | exact vI | fail)); done) ?_; (rintro ⟨j, hj, hg⟩; rcases Nat.lt_or_eq_of_le hj with hjl | hjl <;> first | (have hsx := (hs.down j hjl).1; generalize hx : l.getD j default = x at hsx; (simp -dsimp (disch := first | exact vD | fail) only [push_cast, simprocAttr, v2I])) | (simp -dsimp (disch := first | exact vD | fail) only [push_cast, simprocAttr, v2I]))) | (refine Nxt_id ?_; refine Nxt.mk [] (⟨j + 1, by omega, anyT_s (by omega) hg (by rw [hx]; have ei : i = x.nodes.length := (by omega); subst ei; rw [List.take_length] at hf; exact hf)⟩) rfl (by unfold v2I; (try simp only [List.cons_append, List.nil_append]); refine Sub.mk2 ?_; (simp -dsimp (disch := first | exact vD | fail) only [push_cast, simprocAttr, hx]); (repeat (refine aI ?_)); (first | done | (first | exact vI | fail)); done) (by first | omega | (simp; done) | (simp; omega))) | (refine AC_loop_id ?_; refine AC_loop' [] ([].length) (v1I zl l L) (fun j => L - j.val) (⟨0, by omega, rfl⟩) rfl (by unfold v1I; (try simp only [List.cons_append, List.nil_append]); refine Sub.mk2 ?_; (simp -dsimp (disch := first | exact vD | fail) only [push_cast, simprocAttr, hx]); (repeat (refine aI ?_)); (first | done | (first | exact vI | fail)); done) ?_; (rintro ⟨j0, hj0, he⟩; (simp -dsimp (disch := first | exact vD | fail) only [push_cast, simprocAttr, v1I]))) | (refine Nxt_id ?_; refine Nxt.mk [] (⟨j0 + 1, by omega, listE_s (by omega) he (Decidable.not_not.1 (by assumption))⟩) rfl (by unfold v1I; (try simp only [List.cons_append, List.nil_append]); refine Sub.mk2 ?_; (simp -dsimp (disch := first | exact vD | fail) only [push_cast, simprocAttr, hx]); (repeat (refine aI ?_)); (first | done | (first | exact vI | fail)); done) (by first | omega | (simp; done) | (simp; omega))) | (refine AC_seq ?_) | (refine AC_region_lit ?_) | ((first | refine AL_go rfl (fun K hK => ?_) | refine AL_go0 (fun K hK => ?_)); (first | refine R_callG (f := 65) [] 0 false ?_); simp -dsimp (disch := first | exact vD | fail) only [push_cast, simprocAttr, hx]; (repeat (refine aI ?_)); intro G hG; refine hG _ _ ?_; clear hG G; (first | refine ⟨_, _, valid_ok (x := l.getD j0 default) (hs.down j0 (by omega)), ?_⟩); simp -dsimp (disch := first | exact vD | fail) only [push_cast, simprocAttr, hx]; (repeat (refine aI ?_)); (first | refine hK _ _ _ ?_ | refine hK _ _ ?_); clear hK K) | ((first | refine AL_go rfl (fun K hK => ?_) | refine AL_go0 (fun K hK => ?_)); (first | refine R_move _ ?_ | refine R_assign _ ?_ | refine Q_load _ _ ?_ | refine Q_loadAgg _ _ ?_ | refine Q_fieldAddr _ _ _ ?_ | refine Q_indexAddr _ _ _ ?_ | refine Q_indexArr _ _ _ ?_ | refine Q_len _ _ ?_ | refine Q_lenStr _ _ ?_ | refine R_alloc _ ?_ | refine Q_store _ _ _ ?_ | refine Q_eqAgg _ _ _ _ ?_ | refine Q_neqAgg _ _ _ _ ?_ | refine Q_neqSelf _ _ _ _ ?_ | refine Q_bin _ _ _ _ _ ?_); simp -dsimp (disch := first | exact vD | fail) only [push_cast, simprocAttr, hx]; (repeat (refine aI ?_)); (first | refine hK _ _ _ ?_ | refine hK _ _ ?_); clear hK K) | ((first | refine AL_guard rfl rfl (fun K1 K2 h1 h2 => ?_) rfl | refine AC_cond_k (fun K1 K2 h1 h2 => ?_)); simp -dsimp (disch := first | exact vD | fail) only [push_cast, simprocAttr, hx]; (first | (refine ⟨fun hc => ?_, fun hc => ?_⟩ <;> first | (exfalso; omega) | (exfalso; contradiction) | refine h1 ?_ | refine h2 ?_) | refine h1 ?_ | refine h2 ?_); all_goals clear h1 h2 K1 K2) | (refine AL_nil ?_) | (refine Thn_normal ?_) | (refine Thn_ret ?_) | (refine Thn_exit ?_) | (refine Blk_normal ?_) | (refine Blk_ret ?_) | (refine Blk_here ?_) | (refine Blk_other rfl ?_) | (refine AC_block ?_) | (refine AC_exit ?_) | (refine AC_skip ?_) | (refine AC_ret ?_))
  all_goals first
    | (have e := fvE_9 (l := l) (by omega); (refine Ends.mk2 (by first | exact .inr rfl | exact .inl rfl) [] ?_; simp -dsimp (disch := first | exact vD | fail) only [push_cast, simprocAttr, Tryd.f33, e]; (repeat (refine aI ?_)); try (first | exact vI | fail)); done)
    | (have e := fvE_3 (l := l) (by omega); (refine Ends.mk2 (by first | exact .inr rfl | exact .inl rfl) [] ?_; simp -dsimp (disch := first | exact vD | fail) only [push_cast, simprocAttr, Tryd.f33, e]; (repeat (refine aI ?_)); try (first | exact vI | fail)); done)
    | (have e := fvE_e (l := l) (j := j0) (by omega) (by omega) (by omega) he (by assumption); (refine Ends.mk2 (by first | exact .inr rfl | exact .inl rfl) [] ?_; simp -dsimp (disch := first | exact vD | fail) only [push_cast, simprocAttr, Tryd.f33, e]; (repeat (refine aI ?_)); try (first | exact vI | fail)); done)
    | (have ej : j0 = l.length := (by omega); subst ej; rw [List.take_length] at he; have e := fvE_7 (l := l) (by omega) (by omega) he (j := j) (by omega) hx (i := i) (by omega) (by omega); (refine Ends.mk2 (by first | exact .inr rfl | exact .inl rfl) [] ?_; simp -dsimp (disch := first | exact vD | fail) only [push_cast, simprocAttr, Tryd.f33, e]; (repeat (refine aI ?_)); try (first | exact vI | fail)); done)
    | (have ej : j0 = l.length := (by omega); have ej2 : j = l.length := (by omega); subst ej; subst ej2; rw [List.take_length] at he hg; subst hL; have e := fvE_0 (l := l) (by omega) (by omega) he hg; (refine Ends.mk2 (by first | exact .inr rfl | exact .inl rfl) [] ?_; simp -dsimp (disch := first | exact vD | fail) only [push_cast, simprocAttr, Tryd.f33, e]; (repeat (refine aI ?_)); try (first | exact vI | fail)); done)
    | trace_state
def chE (l : List Ex) (s : Nat) : Int := if ¬ fvE l = 0 then fvE l else if sdif s (fullS l.length) % 65536 = 0 then 0 else 7
theorem within_ok (hL : l.length = L) (hL2 : L < 2^40) (hs : ∀ i, i < L → Short (l.getD i default)) : ACall Tryd.prog 46 [.isl zl (cR l) L, .val (.int .u16 (U s))] [] 0 (.val (.int .i64 (chE l s))) [] := by
  have hs := PLift.up hs
  refine ACall.enter Tryd.func46 rfl (by simp [Tryd.ntmps46]) (by simp) ?_; simp only [entry, idx, Tryd.ntmps46, List.length, List.map_cons, List.map_nil, List.append_nil, List.cons_append, List.nil_append, Nat.reduceAdd, Nat.zero_add, List.length_cons, List.length_nil]
  repeat' (first | (refine AC_seq ?_) | (refine AC_region_lit ?_) | ((first | refine AL_go rfl (fun K hK => ?_) | refine AL_go0 (fun K hK => ?_)); (first | refine R_callG (f := 33) [] 0 false ?_ | refine R_callG (f := 42) [] 0 false ?_); simp -dsimp (disch := first | exact vD | fail) only [push_cast, simprocAttr]; (repeat (refine aI ?_)); intro G hG; refine hG _ _ ?_; clear hG G; (first | refine ⟨_, _, fvalid_ok hL hL2 hs.down, ?_⟩ | refine ⟨_, _, full_ok (n := L), ?_⟩); simp -dsimp (disch := first | exact vD | fail) only [push_cast, simprocAttr]; (repeat (refine aI ?_)); (first | refine hK _ _ _ ?_ | refine hK _ _ ?_); clear hK K) | ((first | refine AL_go rfl (fun K hK => ?_) | refine AL_go0 (fun K hK => ?_)); (first | refine R_move _ ?_ | refine R_assign _ ?_ | refine Q_len _ _ ?_ | refine Q_lenStr _ _ ?_ | refine Q_eqAgg _ _ _ _ ?_ | refine Q_neqAgg _ _ _ _ ?_ | refine Q_neqSelf _ _ _ _ ?_ | refine Q_bin _ _ _ _ _ ?_); simp -dsimp (disch := first | exact vD | fail) only [push_cast, simprocAttr]; (repeat (refine aI ?_)); (first | refine hK _ _ _ ?_ | refine hK _ _ ?_); clear hK K) | ((first | refine AL_guard rfl rfl (fun K1 K2 h1 h2 => ?_) rfl | refine AC_cond_k (fun K1 K2 h1 h2 => ?_)); simp -dsimp (disch := first | exact vD | fail) only [push_cast, simprocAttr]; (first | (refine ⟨fun hc => ?_, fun hc => ?_⟩ <;> first | (exfalso; omega) | (exfalso; contradiction) | refine h1 ?_ | refine h2 ?_) | refine h1 ?_ | refine h2 ?_); all_goals clear h1 h2 K1 K2) | (refine AL_nil ?_) | (refine Thn_normal ?_) | (refine Thn_ret ?_) | (refine Thn_exit ?_) | (refine Blk_normal ?_) | (refine Blk_ret ?_) | (refine Blk_here ?_) | (refine Blk_other rfl ?_) | (refine AC_block ?_) | (refine AC_exit ?_) | (refine AC_skip ?_) | (refine AC_ret ?_))
  all_goals first
    | (have e : chE l s = fvE l := (by unfold chE; rw [if_pos (by assumption)]); (refine Ends.mk2 (by first | exact .inr rfl | exact .inl rfl) [] ?_; simp -dsimp (disch := first | exact vD | fail) only [push_cast, simprocAttr, Tryd.f46, e]; (repeat (refine aI ?_)); try (first | exact vI | fail)); done)
    | (have e : chE l s = 7 := (by unfold chE; rw [if_neg (by assumption), if_neg (by subst hL; assumption)]); (refine Ends.mk2 (by first | exact .inr rfl | exact .inl rfl) [] ?_; simp -dsimp (disch := first | exact vD | fail) only [push_cast, simprocAttr, Tryd.f46, e]; (repeat (refine aI ?_)); try (first | exact vI | fail)); done)
    | (have e : chE l s = 0 := (by unfold chE; rw [if_neg (by assumption), if_pos (by subst hL; exact Decidable.not_not.1 (by assumption))]); (refine Ends.mk2 (by first | exact .inr rfl | exact .inl rfl) [] ?_; simp -dsimp (disch := first | exact vD | fail) only [push_cast, simprocAttr, Tryd.f46, e]; (repeat (refine aI ?_)); try (first | exact vI | fail)); done)
    | trace_state
def svI (x : Ex) (i : {i : Nat // i ≤ x.nodes.length}) : St :=
  ⟨29, 0, [(1,.pt 0 0), (3,.val (.int .u16 (U (srvA 0 (x.nodes.take i.val))))), (4,.val (.int .i64 i.val))], [(0, some (.cells (Cells.cells x) 50))]⟩
theorem srv_t (hi : i < x.nodes.length) (hk : (x.nodes.getD i default).kind = 1) : srvA 0 (x.nodes.take (i + 1)) = sor (srvA 0 (x.nodes.take i)) (2 ^ (x.nodes.getD i default).server.toNat) := by
  have e3 : x.nodes.take (i + 1) = x.nodes.take i ++ [x.nodes.getD i default] := by rw [List.take_add_one]; simp [List.getD_eq_getElem?_getD, hi]
  rw [e3, srvA_snoc, if_pos hk]
theorem srv_f (hi : i < x.nodes.length) (hk : ¬ (x.nodes.getD i default).kind = 1) : srvA 0 (x.nodes.take (i + 1)) = srvA 0 (x.nodes.take i) := by
  have e3 : x.nodes.take (i + 1) = x.nodes.take i ++ [x.nodes.getD i default] := by rw [List.take_add_one]; simp [List.getD_eq_getElem?_getD, hi]
  rw [e3, srvA_snoc, if_neg hk]
theorem servers_ok (hx : XOk x) : ACall Tryd.prog 64 [.agg (Cells.cells x)] [] 0 (.val (.int .u16 (U (srvA 0 x.nodes)))) [] := by
  have hfew := hx.few
  have hnode := PLift.up hx.node
  refine ACall.enter Tryd.func64 rfl (by simp [Tryd.ntmps64]) (by simp) ?_; simp only [entry, idx, Tryd.ntmps64, List.length, List.map_cons, List.map_nil, List.append_nil, List.cons_append, List.nil_append, Nat.reduceAdd, Nat.zero_add, List.length_cons, List.length_nil]
  repeat' (first | (refine AC_loop_id ?_; refine AC_loop' [0] ([0].length) (svI x) (fun i => x.nodes.length - i.val) (⟨0, by omega⟩) rfl (by unfold svI; (try simp only [List.cons_append, List.nil_append]); refine Sub.mk2 ?_; (simp -dsimp (disch := first | exact vD | fail) only [push_cast, simprocAttr, srvA, srv_t, srv_f]); (repeat (refine aI ?_)); (first | done | (first | exact vI | fail)); done) ?_; (rintro ⟨i, hi⟩; rcases Nat.lt_or_eq_of_le hi with hil | hil <;> first | (have hsv := (hnode.down i hil).srv; (simp -dsimp (disch := first | exact vD | fail) only [push_cast, simprocAttr, svI])) | (simp -dsimp (disch := first | exact vD | fail) only [push_cast, simprocAttr, svI]))) | (refine Nxt_id ?_; refine Nxt.mk [0] (⟨i + 1, by omega⟩) rfl (by unfold svI; (try simp only [List.cons_append, List.nil_append]); refine Sub.mk2 ?_; (simp -dsimp (disch := first | exact vD | fail) only [push_cast, simprocAttr, srvA, srv_t, srv_f]); (repeat (refine aI ?_)); (first | done | (first | exact vI | fail)); done) (by first | omega | (simp; done) | (simp; omega))) | (refine AC_seq ?_) | (refine AC_region_lit ?_) | ((first | refine AL_go rfl (fun K hK => ?_) | refine AL_go0 (fun K hK => ?_)); (first | refine R_move _ ?_ | refine R_assign _ ?_ | refine Q_load _ _ ?_ | refine Q_loadAgg _ _ ?_ | refine Q_fieldAddr _ _ _ ?_ | refine Q_indexAddr _ _ _ ?_ | refine Q_indexArr _ _ _ ?_ | refine Q_len _ _ ?_ | refine Q_lenStr _ _ ?_ | refine Q_box _ _ ?_ | refine Q_eqAgg _ _ _ _ ?_ | refine Q_neqAgg _ _ _ _ ?_ | refine Q_neqSelf _ _ _ _ ?_ | refine Q_bin _ _ _ _ _ ?_); simp -dsimp (disch := first | exact vD | fail) only [push_cast, simprocAttr, srvA, srv_t, srv_f]; (repeat (refine aI ?_)); (first | refine hK _ _ _ ?_ | refine hK _ _ ?_); clear hK K) | ((first | refine AL_guard rfl rfl (fun K1 K2 h1 h2 => ?_) rfl | refine AC_cond_k (fun K1 K2 h1 h2 => ?_)); simp -dsimp (disch := first | exact vD | fail) only [push_cast, simprocAttr, srvA, srv_t, srv_f]; (first | (refine ⟨fun hc => ?_, fun hc => ?_⟩ <;> first | (exfalso; omega) | (exfalso; contradiction) | refine h1 ?_ | refine h2 ?_) | refine h1 ?_ | refine h2 ?_); all_goals clear h1 h2 K1 K2) | (refine AL_nil ?_) | (refine Thn_normal ?_) | (refine Thn_ret ?_) | (refine Thn_exit ?_) | (refine Blk_normal ?_) | (refine Blk_ret ?_) | (refine Blk_here ?_) | (refine Blk_other rfl ?_) | (refine AC_block ?_) | (refine AC_exit ?_) | (refine AC_skip ?_) | (refine AC_ret ?_))
  all_goals first
    | (have ei : i = x.nodes.length := (by omega); subst ei; rw [← List.take_length (l := x.nodes)]; (refine Ends.mk2 (by first | exact .inr rfl | exact .inl rfl) [] ?_; simp -dsimp (disch := first | exact vD | fail) only [push_cast, simprocAttr, Tryd.f64]; (repeat (refine aI ?_)); try (first | exact vI | fail)); done)
    | trace_state
theorem far_srv (hx : XOk x) (hL0 : 0 < L) (hL : L ≤ 12) : (sdif (srvA 0 x.nodes) (fullS L) % 65536 = 0) ↔ farX L x = false := by
  have hm : ∀ t ∈ x.nodes, ∃ k, NOk t k := fun t ht => by
    obtain ⟨i, hi, rfl⟩ := List.getElem_of_mem ht
    have := hx.node i hi
    rw [List.getD_eq_getElem?_getD, List.getElem?_eq_getElem hi, Option.getD_some] at this
    exact ⟨i, this⟩
  rw [sub_bit]
  have hb : ∀ i, bit (srvA 0 x.nodes) i = x.nodes.any fun t => decide (t.kind = 1) && decide (t.server = (i : Nat)) := fun i => by
    rw [srvA_bit 0 x.nodes (fun t ht _ => by obtain ⟨k, hk⟩ := hm t ht; exact hk.srv), bit_0, Bool.false_or]
  unfold farX
  rw [List.any_eq_false]
  refine ⟨fun h t ht => ?_, fun h i hi => ?_⟩
  · obtain ⟨k, hk⟩ := hm t ht
    rcases hk.kind with h1 | h2
    · have h3 := h t.server.toNat (by
        rw [hb, List.any_eq_true]; exact ⟨t, ht, by have := hk.srv; simp [h1]; omega⟩)
      rw [bit_full (by omega)] at h3
      have h3 := of_decide_eq_true h3
      have := hk.srv
      simp only [farN, decide_eq_true_eq]; omega
    · have h3 := hk.zero h2
      simp only [farN, decide_eq_true_eq]; omega
  · rw [hb, List.any_eq_true] at hi
    obtain ⟨t, ht, h1⟩ := hi
    simp only [Bool.and_eq_true, decide_eq_true_eq] at h1
    have := h t ht
    simp only [farN, decide_eq_true_eq] at this
    rw [bit_full (by omega)]; exact decide_eq_true (by omega)
end Go.Proofs.YtgnkcohlfdddnaaDoor
