/- What, once deleted, leaves two quorums apart: the reference's Splitting. No condition. -/
import Derived.Test.YtgnkcohlfdddnaaDoorFe22
set_option linter.unusedVariables false
set_option linter.unusedSectionVars false
set_option linter.unusedSimpArgs false
set_option maxHeartbeats 2000000
set_option maxRecDepth 20000
namespace Go.Proofs.YtgnkcohlfdddnaaDoor
open Go Go.Sy Go.Bp
attribute [local irreducible] AO AL AC OpT ACall Ends DGo DRun Thn Blk Nxt
variable {z zl : Bool} {n i j m q s d L N : Nat} {l : List Ex} {xs : List Nat} {F : Nat → Bool}
theorem rsubs_ok (h6 : L ≤ 6) (hx : subs (fullS L) = xs) (hN : xs.length = N) : ACall Tryd.prog 52 [.val (.int .u16 (U (fullS L)))] [] 0 (.isl (N == 0) (cX xs) N) [] := by
  have h1 := rsub_ok (s := fullS L)
  have hfs := full_subs h6
  have hsn : sbN (fullS L) (memL (fullS L) 16 + 1) = (subs (fullS L)).length := by rw [← sbA_len, hfs]
  rw [hsn, hfs, hx, hN] at h1; exact h1
attribute [local irreducible] subs minQ dsj memL mem delR foundF delL delT
theorem jx_is {p : Nat → Bool} (hj : j < n) (h : p j = true) (hb : ∀ i, i < j → p i = false) : jx p n = some j := jx_hit hj h hb
def rgA (zl : Bool) (l : List Ex) (L : Nat) (xs : List Nat) (N : Nat) (j : {j : Nat // j = 0}) : St :=
  ⟨51, 0, [(0,.isl zl (cR l) L), (5,.isl (N == 0) (cX xs) N), (6,.val (.int .i64 j.val))], []⟩
def rgB (zl : Bool) (l : List Ex) (L : Nat) (xs : List Nat) (N : Nat) (F : Nat → Bool) (j : {j : Nat // j ≤ N ∧ ∀ i, i < j → F i = false}) : St :=
  ⟨51, 0, [(0,.isl zl (cR l) L), (5,.isl (N == 0) (cX xs) N), (6,.val (.int .i64 j.val))], []⟩
theorem rsplitting_ok (hl : LOk l) (hL : l.length = L) (h6 : L ≤ 6) : ACall Tryd.prog 23 [.isl zl (cR l) L] [] 0 (splgV (splgR l)) [] := by
  have hpos := hl.pos
  have h1 := PLift.up (rvx_ok (zl := zl) hL (by omega) (hl.sh hL))
  have h2 := fun j => PLift.up (rdel_ok (zl := zl) (d := j) hL (by omega) (by omega) (fun i hi => hl.sh hL i hi))
  have hz := subs_0 h6
  have hin := fun q (h : q ∈ subs (fullS L)) => fulls_in h6 h
  have h64 := fun q (h : q ∈ subs (fullS L)) => subs_64 h6 h
  have hlen := subs_448 (s := fullS L) (memL_6 h6 (fun i hi => by rw [bit_full (by omega)] at hi; exact of_decide_eq_true hi))
  obtain ⟨xs, hxs⟩ : ∃ xs, subs (fullS L) = xs := ⟨_, rfl⟩
  rw [hxs] at hz hin h64 hlen
  obtain ⟨N, hN⟩ : ∃ N, xs.length = N := ⟨_, rfl⟩
  have h3 := PLift.up (rsubs_ok h6 hxs hN)
  have her : (delR mkP l 0).2 = (delR mkR l 0).2 := delR_err
  have hff := dmy_def; have hq := dmy_def
  by_cases hf : fvE l = 0
  · by_cases he : (delR mkR l 0).2 = 0
    · have hb := big_of hl hL he
      have h4 : ∀ j, j < N → PLift (ACall Tryd.prog 26 [.isl zl (cR l) L, .val (.int .u16 (U (xs.getD j 0)))] [] 0 (.tup [.isl false (cR (delL mkR l (delT (xs.getD j 0) L) (xs.getD j 0) L)) L, .val (.int .i64 0)]) []) := fun j hj => PLift.up (by
        have h := (h2 (xs.getD j 0)).down
        rw [delR_ok hl hL he (hin _ (getD_mem (by omega)))] at h
        unfold delV at h
        dsimp only at h
        rw [delL_len, beq_s (by omega)] at h; exact h)
      have h5 : ∀ j, j < N → PLift (ACall Tryd.prog 41 [.isl false (cR (delL mkR l (delT (xs.getD j 0) L) (xs.getD j 0) L)) L] [] 0 (lsV (minQ l (xs.getD j 0))) []) := fun j hj => PLift.up (by
        have hm := getD_mem (l := xs) (d := 0) (i := j) (by omega)
        have h := all_ok (zl := false) (l := delL mkR l (delT (xs.getD j 0) L) (xs.getD j 0) L) (L := L) (del_LOk mkok_R hl hL (fun i hi _ => hb i hi)) delL_len h6
        have e : rminQ (delL mkR l (delT (xs.getD j 0) L) (xs.getD j 0) L) = minQ l (xs.getD j 0) := by
          unfold rminQ; rw [delL_len]
          exact all_del mkok_R hl hL h6 (fun i hi _ => hb i hi) (hin _ hm) (h64 _ hm)
        rw [e] at h; exact h)
      have h6 := fun j => PLift.up (rspl_ok (z := (minQ l (xs.getD j 0)).length == 0) (qs := minQ l (xs.getD j 0)) rfl (by have := minQ_len (l := l) (d := xs.getD j 0) (by omega); omega))
      obtain ⟨F, hF⟩ : ∃ F, foundF l xs = F := ⟨_, rfl⟩
      have hF2 : ∀ j, (dsj (minQ l (xs.getD j 0))).2.2 = F j := fun j => by rw [← hF]; unfold foundF; rfl
      unfold lsV at h5
      unfold dsV at h6
      have hd0 : (delR mkP l 0).2 = 0 := by rw [her]; exact he
      have e2 := fun j => splgR_2 (j := j) hL hxs hd0
      have e3 := splgR_3 hL hxs hd0
      rw [hF, hN] at e2 e3
      refine ACall.enter Tryd.func23 rfl (by simp [Tryd.ntmps23]) (by simp) ?_; simp only [entry, idx, Tryd.ntmps23, List.length, List.map_cons, List.map_nil, List.append_nil, List.cons_append, List.nil_append, Nat.reduceAdd, Nat.zero_add, List.length_cons, List.length_nil]
      repeat' (first | (refine AC_loop_id ?_; refine AC_loop' [] ([].length) (rgB zl l L xs N F) (fun j => N - j.val) (⟨0, by omega, fun i hi => absurd hi (by omega)⟩) rfl (by unfold rgB; (try simp only [List.cons_append, List.nil_append]); refine Sub.mk2 ?_; (simp -dsimp (disch := first | exact vD | fail) only [push_cast, simprocAttr, hff, hf, hF2, c_Nat, dflt_N]); (repeat (refine aI ?_)); (first | done | (first | exact vI | fail)); done) ?_; (rintro ⟨j, hj, hno⟩; rcases Bool.eq_false_or_eq_true (F j) with hff | hff <;> (simp -dsimp (disch := first | exact vD | fail) only [push_cast, simprocAttr, rgB]))) | (refine Nxt_id ?_; refine Nxt.mk [] (⟨j + 1, by omega, fun i hi => by (by_cases e : i = j; rw [e]; exact hff; exact hno i (by omega))⟩) rfl (by unfold rgB; (try simp only [List.cons_append, List.nil_append]); refine Sub.mk2 ?_; (simp -dsimp (disch := first | exact vD | fail) only [push_cast, simprocAttr, hff, hf, hF2, c_Nat, dflt_N]); (repeat (refine aI ?_)); (first | done | (first | exact vI | fail)); done) (by first | omega | (simp; done) | (simp; omega))) | (refine AC_seq ?_) | (refine AC_region_lit ?_) | ((first | refine AL_go rfl (fun K hK => ?_) | refine AL_go0 (fun K hK => ?_)); (first | refine R_callG (f := 32) [] 0 false ?_ | refine R_callG (f := 44) [] 0 false ?_ | refine R_callG (f := 52) [] 0 false ?_ | refine R_callG (f := 26) [] 0 false ?_ | refine R_callG (f := 41) [] 0 false ?_ | refine R_callG (f := 50) [] 0 false ?_); simp -dsimp (disch := first | exact vD | fail) only [push_cast, simprocAttr, hff, hf, hF2, c_Nat, dflt_N]; (repeat (refine aI ?_)); intro G hG; refine hG _ _ ?_; clear hG G; (first | refine ⟨_, _, h1.down, ?_⟩ | refine ⟨_, _, rfull_ok (n := L), ?_⟩ | refine ⟨_, _, h3.down, ?_⟩ | refine ⟨_, _, (h4 j (by omega)).down, ?_⟩ | refine ⟨_, _, (h5 j (by omega)).down, ?_⟩ | refine ⟨_, _, (h6 j).down, ?_⟩); simp -dsimp (disch := first | exact vD | fail) only [push_cast, simprocAttr, hff, hf, hF2, c_Nat, dflt_N]; (repeat (refine aI ?_)); (first | refine hK _ _ _ ?_ | refine hK _ _ ?_); clear hK K) | ((first | refine AL_go rfl (fun K hK => ?_) | refine AL_go0 (fun K hK => ?_)); (first | refine R_move _ ?_ | refine R_assign _ ?_ | refine Q_load _ _ ?_ | refine Q_loadAgg _ _ ?_ | refine Q_indexAddr _ _ _ ?_ | refine Q_indexArr _ _ _ ?_ | refine Q_len _ _ ?_ | refine Q_lenStr _ _ ?_ | refine Q_extract _ _ ?_ | refine Q_eqAgg _ _ _ _ ?_ | refine Q_neqAgg _ _ _ _ ?_ | refine Q_neqSelf _ _ _ _ ?_ | refine Q_bin _ _ _ _ _ ?_); simp -dsimp (disch := first | exact vD | fail) only [push_cast, simprocAttr, hff, hf, hF2, c_Nat, dflt_N]; (repeat (refine aI ?_)); (first | refine hK _ _ _ ?_ | refine hK _ _ ?_); clear hK K) | ((first | refine AL_guard rfl rfl (fun K1 K2 h1 h2 => ?_) rfl | refine AC_cond_k (fun K1 K2 h1 h2 => ?_)); simp -dsimp (disch := first | exact vD | fail) only [push_cast, simprocAttr, hff, hf, hF2, c_Nat, dflt_N]; (first | (refine ⟨fun hc => ?_, fun hc => ?_⟩ <;> first | (exfalso; omega) | (exfalso; contradiction) | refine h1 ?_ | refine h2 ?_) | refine h1 ?_ | refine h2 ?_); all_goals clear h1 h2 K1 K2) | (refine AL_nil ?_) | (refine Thn_normal ?_) | (refine Thn_ret ?_) | (refine Thn_exit ?_) | (refine Blk_normal ?_) | (refine Blk_ret ?_) | (refine Blk_here ?_) | (refine Blk_other rfl ?_) | (refine AC_block ?_) | (refine AC_exit ?_) | (refine AC_skip ?_) | (refine AC_ret ?_))
      all_goals first
        | (rw [e2 j (jx_is (by omega) hff hno)]; unfold splgV; (refine Ends.mk2 (by first | exact .inr rfl | exact .inl rfl) [] ?_; simp -dsimp (disch := first | exact vD | fail) only [push_cast, simprocAttr, Tryd.f23]; (repeat (refine aI ?_)); try (first | exact vI | fail)); done)
        | (rw [e3 (jx_none (fun i hi => hno i (by omega)))]; unfold splgV; (refine Ends.mk2 (by first | exact .inr rfl | exact .inl rfl) [] ?_; simp -dsimp (disch := first | exact vD | fail) only [push_cast, simprocAttr, Tryd.f23, U_0n]; (repeat (refine aI ?_)); try (first | exact vI | fail)); done)
        | trace_state
    · have h4 := (h2 0).down
      unfold delV at h4
      have e := splgR_1 (l := l) (by rw [her]; exact he)
      rw [her] at e
      rw [e]
      generalize delR mkR l 0 = dr at *
      have h4 := PLift.up h4
      have hz1 := hz.1
      have hz2 := hz.2
      rw [hN] at hz2
      unfold splgV
      refine ACall.enter Tryd.func23 rfl (by simp [Tryd.ntmps23]) (by simp) ?_; simp only [entry, idx, Tryd.ntmps23, List.length, List.map_cons, List.map_nil, List.append_nil, List.cons_append, List.nil_append, Nat.reduceAdd, Nat.zero_add, List.length_cons, List.length_nil]
      repeat' (first | (refine AC_loop_id ?_; refine AC_loop' [] ([].length) (rgA zl l L xs N) (fun j => j.val) (⟨0, rfl⟩) rfl (by unfold rgA; (try simp only [List.cons_append, List.nil_append]); refine Sub.mk2 ?_; (simp -dsimp (disch := first | exact vD | fail) only [push_cast, simprocAttr, hz1, hf, he, c_Nat, dflt_N, U_0n]); (repeat (refine aI ?_)); (first | done | (first | exact vI | fail)); done) ?_; (rintro ⟨j, rfl⟩; (simp -dsimp (disch := first | exact vD | fail) only [push_cast, simprocAttr, rgA]))) | (refine AC_seq ?_) | (refine AC_region_lit ?_) | ((first | refine AL_go rfl (fun K hK => ?_) | refine AL_go0 (fun K hK => ?_)); (first | refine R_callG (f := 32) [] 0 false ?_ | refine R_callG (f := 44) [] 0 false ?_ | refine R_callG (f := 52) [] 0 false ?_ | refine R_callG (f := 26) [] 0 false ?_); simp -dsimp (disch := first | exact vD | fail) only [push_cast, simprocAttr, hz1, hf, he, c_Nat, dflt_N, U_0n]; (repeat (refine aI ?_)); intro G hG; refine hG _ _ ?_; clear hG G; (first | refine ⟨_, _, h1.down, ?_⟩ | refine ⟨_, _, rfull_ok (n := L), ?_⟩ | refine ⟨_, _, h3.down, ?_⟩ | refine ⟨_, _, h4.down, ?_⟩); simp -dsimp (disch := first | exact vD | fail) only [push_cast, simprocAttr, hz1, hf, he, c_Nat, dflt_N, U_0n]; (repeat (refine aI ?_)); (first | refine hK _ _ _ ?_ | refine hK _ _ ?_); clear hK K) | ((first | refine AL_go rfl (fun K hK => ?_) | refine AL_go0 (fun K hK => ?_)); (first | refine R_move _ ?_ | refine R_assign _ ?_ | refine Q_load _ _ ?_ | refine Q_loadAgg _ _ ?_ | refine Q_indexAddr _ _ _ ?_ | refine Q_indexArr _ _ _ ?_ | refine Q_len _ _ ?_ | refine Q_lenStr _ _ ?_ | refine Q_extract _ _ ?_ | refine Q_eqAgg _ _ _ _ ?_ | refine Q_neqAgg _ _ _ _ ?_ | refine Q_neqSelf _ _ _ _ ?_ | refine Q_bin _ _ _ _ _ ?_); simp -dsimp (disch := first | exact vD | fail) only [push_cast, simprocAttr, hz1, hf, he, c_Nat, dflt_N, U_0n]; (repeat (refine aI ?_)); (first | refine hK _ _ _ ?_ | refine hK _ _ ?_); clear hK K) | ((first | refine AL_guard rfl rfl (fun K1 K2 h1 h2 => ?_) rfl | refine AC_cond_k (fun K1 K2 h1 h2 => ?_)); simp -dsimp (disch := first | exact vD | fail) only [push_cast, simprocAttr, hz1, hf, he, c_Nat, dflt_N, U_0n]; (first | (refine ⟨fun hc => ?_, fun hc => ?_⟩ <;> first | (exfalso; omega) | (exfalso; contradiction) | refine h1 ?_ | refine h2 ?_) | refine h1 ?_ | refine h2 ?_); all_goals clear h1 h2 K1 K2) | (refine AL_nil ?_) | (refine Thn_normal ?_) | (refine Thn_ret ?_) | (refine Thn_exit ?_) | (refine Blk_normal ?_) | (refine Blk_ret ?_) | (refine Blk_here ?_) | (refine Blk_other rfl ?_) | (refine AC_block ?_) | (refine AC_exit ?_) | (refine AC_skip ?_) | (refine AC_ret ?_))
      all_goals first
        | ((refine Ends.mk2 (by first | exact .inr rfl | exact .inl rfl) [] ?_; simp -dsimp (disch := first | exact vD | fail) only [push_cast, simprocAttr, Tryd.f23, U_0n]; (repeat (refine aI ?_)); try (first | exact vI | fail)); done)
        | trace_state
  · have e := splgR_1 (l := l) (by
      unfold delR; rw [if_pos (by rw [chE_0 hL (by omega)]; exact hf)]; dsimp only; rw [chE_0 hL (by omega)]; exact hf)
    have e2 : (delR mkP l 0).2 = fvE l := by unfold delR; rw [if_pos (by rw [chE_0 hL (by omega)]; exact hf)]; exact chE_0 hL (by omega)
    rw [e2] at e
    rw [e]
    unfold splgV
    refine ACall.enter Tryd.func23 rfl (by simp [Tryd.ntmps23]) (by simp) ?_; simp only [entry, idx, Tryd.ntmps23, List.length, List.map_cons, List.map_nil, List.append_nil, List.cons_append, List.nil_append, Nat.reduceAdd, Nat.zero_add, List.length_cons, List.length_nil]
    repeat' (first | (refine AC_seq ?_) | (refine AC_region_lit ?_) | ((first | refine AL_go rfl (fun K hK => ?_) | refine AL_go0 (fun K hK => ?_)); (first | refine R_callG (f := 32) [] 0 false ?_); simp -dsimp (disch := first | exact vD | fail) only [push_cast, simprocAttr, hf]; (repeat (refine aI ?_)); intro G hG; refine hG _ _ ?_; clear hG G; (first | refine ⟨_, _, h1.down, ?_⟩); simp -dsimp (disch := first | exact vD | fail) only [push_cast, simprocAttr, hf]; (repeat (refine aI ?_)); (first | refine hK _ _ _ ?_ | refine hK _ _ ?_); clear hK K) | ((first | refine AL_go rfl (fun K hK => ?_) | refine AL_go0 (fun K hK => ?_)); (first | refine R_move _ ?_ | refine R_assign _ ?_ | refine Q_load _ _ ?_ | refine Q_loadAgg _ _ ?_ | refine Q_indexAddr _ _ _ ?_ | refine Q_indexArr _ _ _ ?_ | refine Q_len _ _ ?_ | refine Q_lenStr _ _ ?_ | refine Q_extract _ _ ?_ | refine Q_eqAgg _ _ _ _ ?_ | refine Q_neqAgg _ _ _ _ ?_ | refine Q_neqSelf _ _ _ _ ?_ | refine Q_bin _ _ _ _ _ ?_); simp -dsimp (disch := first | exact vD | fail) only [push_cast, simprocAttr, hf]; (repeat (refine aI ?_)); (first | refine hK _ _ _ ?_ | refine hK _ _ ?_); clear hK K) | ((first | refine AL_guard rfl rfl (fun K1 K2 h1 h2 => ?_) rfl | refine AC_cond_k (fun K1 K2 h1 h2 => ?_)); simp -dsimp (disch := first | exact vD | fail) only [push_cast, simprocAttr, hf]; (first | (refine ⟨fun hc => ?_, fun hc => ?_⟩ <;> first | (exfalso; omega) | (exfalso; contradiction) | refine h1 ?_ | refine h2 ?_) | refine h1 ?_ | refine h2 ?_); all_goals clear h1 h2 K1 K2) | (refine AL_nil ?_) | (refine Thn_normal ?_) | (refine Thn_ret ?_) | (refine Thn_exit ?_) | (refine Blk_normal ?_) | (refine Blk_ret ?_) | (refine Blk_here ?_) | (refine Blk_other rfl ?_) | (refine AC_block ?_) | (refine AC_exit ?_) | (refine AC_skip ?_) | (refine AC_ret ?_))
    all_goals first
      | ((refine Ends.mk2 (by first | exact .inr rfl | exact .inl rfl) [] ?_; simp -dsimp (disch := first | exact vD | fail) only [push_cast, simprocAttr, Tryd.f23, U_0n]; (repeat (refine aI ?_)); try (first | exact vI | fail)); done)
      | trace_state
end Go.Proofs.YtgnkcohlfdddnaaDoor
