/- Diagrams of expressions: Of, the program's side. No condition. -/
import Derived.Test.YtabafldpnkjboaaDoorFe2
import Derived.Test.YtabafldpnkjboaaDoorExA
import Derived.Test.YtabafldpnkjboaaDoorEcA
import Derived.Test.YtabafldpnkjboaaDoorSymC
import Derived.Test.YtabafldpnkjboaaDoorBpA
import Derived.Test.YtabafldpnkjboaaDoorDi20
set_option linter.unusedVariables false
set_option linter.unusedSectionVars false
set_option linter.unusedSimpArgs false
set_option maxHeartbeats 4000000
set_option maxRecDepth 20000
namespace Go.Proofs.YtabafldpnkjboaaDoor
open Go Go.Sy Go.Bp Go.Dg
attribute [local irreducible] AO AL AC OpT ACall Ends DGo DRun Thn Blk Nxt
variable {n N M T k i m r a b j w u v s q y d : Nat} {z : Bool} {x : Ex} {e : Int} {p : Nat → Bool}
def mxS (x : Ex) : Nat → Int
  | 0 => 0
  | j + 1 => if (x.nodes.getD j default).kind = 1 then max (mxS x j) ((x.nodes.getD j default).server + 1) else mxS x j
theorem mxS_0 : mxS x 0 = 0 := rfl
theorem mxS_1 (h : (x.nodes.getD j default).kind = 1) : max (mxS x j) ((x.nodes.getD j default).server + 1) = mxS x (j + 1) := by
  exact (if_pos h).symm
theorem mxS_2 (h : ¬ (x.nodes.getD j default).kind = 1) : mxS x (j + 1) = mxS x j := by
  exact if_neg h
theorem mxS_le {B : Int} (hB : 0 ≤ B) (h : ∀ j, j < N → (x.nodes.getD j default).server + 1 ≤ B) : j ≤ N → 0 ≤ mxS x j ∧ mxS x j ≤ B := by
  induction j with
  | zero => intro _; exact ⟨Int.le_refl _, hB⟩
  | succ j ih =>
    intro hj
    have := ih (by omega)
    have := h j (by omega)
    by_cases hk : (x.nodes.getD j default).kind = 1
    · rw [← mxS_1 hk]; omega
    · rw [mxS_2 hk]; omega
theorem pholds_ok (hx : XOk x) (hks : KS x) : ACall Tryd.prog 30 [.agg (Cells.cells x), .val (.int .u16 (U s))] [] 0 (.val (.bool (hold (bitI (s % 65536)) x))) [] := by
  obtain ⟨r, hr⟩ := Int.eq_ofNat_of_zero_le hx.root.1
  exact pholds_raw hx hks hr
theorem eval_ok (hv : validE x = 0) (hsh : Short x) (hks : KS x) (hs : s % 65536 < 4096) : ACall Tryd.prog 25 [.agg (Cells.cells x), .val (.int .u16 (U s))] [] 0 (.tup [.val (.bool (hold (bitI (s % 65536)) x)), .val (.int .i64 0)]) [] := by
  have hx := PLift.up (validE_ok hv)
  have hsh := PLift.up hsh
  have hks := PLift.up hks
  have hU : ¬ (4096 : Int) ≤ U s := by unfold U; omega
  refine ACall.enter Tryd.func25 rfl (by simp [Tryd.ntmps25]) (by simp) ?_; simp only [entry, idx, Tryd.ntmps25, List.length, List.map_cons, List.map_nil, List.append_nil, List.cons_append, List.nil_append, Nat.reduceAdd, Nat.zero_add, List.length_cons, List.length_nil]
  repeat' (first | apply AC_seq | apply AC_region_lit | ((first | refine AL_go rfl (fun K hK => ?_) | refine AL_go0 (fun K hK => ?_)); (first | refine R_callG (f := 27) [] 0 false ?_ | refine R_callG (f := 30) [] 0 false ?_); simp -dsimp (disch := try exact vD) only [push_cast, simprocAttr, hU, hv]; (repeat refine aI ?_); intro G hG; refine hG _ _ ?_; clear hG G; (first | refine ⟨_, _, valid_ok hsh.down, ?_⟩ | refine ⟨_, _, pholds_ok hx.down hks.down, ?_⟩); simp -dsimp (disch := try exact vD) only [push_cast, simprocAttr, hU, hv]; (repeat refine aI ?_); apply hK; clear hK K) | ((first | refine AL_go rfl (fun K hK => ?_) | refine AL_go0 (fun K hK => ?_)); (first | apply R_move | apply R_assign | apply Q_load | apply Q_loadAgg | apply Q_box | apply Q_eqAgg | apply Q_neqAgg | apply Q_neqSelf | apply Q_bin); simp -dsimp (disch := try exact vD) only [push_cast, simprocAttr, hU, hv]; (repeat refine aI ?_); apply hK; clear hK K) | ((first | refine AL_guard rfl rfl (fun K1 K2 h1 h2 => ?_) rfl | refine AC_cond_k (fun K1 K2 h1 h2 => ?_)); simp -dsimp (disch := try exact vD) only [push_cast, simprocAttr, hU, hv]; (first | (refine ⟨fun hc => ?_, fun hc => ?_⟩ <;> first | (exfalso; omega) | (exfalso; contradiction) | refine h1 ?_ | refine h2 ?_) | refine h1 ?_ | refine h2 ?_); all_goals clear h1 h2 K1 K2) | apply AL_nil | apply Thn_normal | apply Thn_ret | apply Thn_exit | apply Blk_normal | apply Blk_ret | apply Blk_here | (refine Blk_other rfl ?_) | apply AC_block | apply AC_exit | apply AC_skip | apply AC_ret)
  all_goals (refine Ends.mk2 (by first | exact .inr rfl | exact .inl rfl) [] ?_; simp -dsimp (disch := try exact vD) only [push_cast, simprocAttr, Tryd.f25]; (repeat refine aI ?_); try (first | exact vI | fail))
abbrev holdT (x : Ex) (s : Nat) : Bool := hold (bitI (s % 65536)) x
theorem of1_ok (hv : validE x = 0) (hsh : Short x) (hks : KS x) (hs : s < 4096) : ACall Tryd.prog 50 [.val (.int .u16 (U s)), .ipt (Cells.cells x) 0] [] 0 (.val (.bool (holdT x s))) [] := by
  have h := PLift.up (eval_ok (s := s) hv hsh hks (by omega))
  unfold holdT
  refine ACall.enter Tryd.func50 rfl (by simp [Tryd.ntmps50]) (by simp) ?_; simp only [entry, idx, Tryd.ntmps50, List.length, List.map_cons, List.map_nil, List.append_nil, List.cons_append, List.nil_append, Nat.reduceAdd, Nat.zero_add, List.length_cons, List.length_nil]
  repeat' (first | apply AC_seq | apply AC_region_lit | ((first | refine AL_go rfl (fun K hK => ?_) | refine AL_go0 (fun K hK => ?_)); (first | refine R_callG (f := 25) [] 0 false ?_); simp -dsimp (disch := try exact vD) only [push_cast, simprocAttr]; (repeat refine aI ?_); intro G hG; refine hG _ _ ?_; clear hG G; (first | refine ⟨_, _, h.down, ?_⟩); simp -dsimp (disch := try exact vD) only [push_cast, simprocAttr]; (repeat refine aI ?_); apply hK; clear hK K) | ((first | refine AL_go rfl (fun K hK => ?_) | refine AL_go0 (fun K hK => ?_)); (first | apply R_move | apply R_assign | apply Q_load | apply Q_loadAgg | apply Q_extract); simp -dsimp (disch := try exact vD) only [push_cast, simprocAttr]; (repeat refine aI ?_); apply hK; clear hK K) | ((first | refine AL_guard rfl rfl (fun K1 K2 h1 h2 => ?_) rfl | refine AC_cond_k (fun K1 K2 h1 h2 => ?_)); simp -dsimp (disch := try exact vD) only [push_cast, simprocAttr]; (first | (refine ⟨fun hc => ?_, fun hc => ?_⟩ <;> first | (exfalso; omega) | (exfalso; contradiction) | refine h1 ?_ | refine h2 ?_) | refine h1 ?_ | refine h2 ?_); all_goals clear h1 h2 K1 K2) | apply AL_nil | apply Thn_normal | apply Thn_ret | apply Thn_exit | apply Blk_normal | apply Blk_ret | apply Blk_here | (refine Blk_other rfl ?_) | apply AC_block | apply AC_exit | apply AC_skip | apply AC_ret)
  all_goals (refine Ends.mk2 (by first | exact .inr rfl | exact .inl rfl) [] ?_; simp -dsimp (disch := try exact vD) only [push_cast, simprocAttr, Tryd.f50]; (repeat refine aI ?_); try (first | exact vI | fail))
def ofI (x : Ex) (N : Nat) (j : {j : Nat // j ≤ N}) : St :=
  ⟨33, 0, [(1,.pt 0 0), (2,.pt 1 0), (5,.val (.int .i64 (mxS x j.val))), (15,.isl x.nz (cR x.nodes) N), (16,.val (.int .i64 N)), (17,.val (.int .i64 j.val))], [(0, some (.cells (Cells.cells x) 31)), (1, some zDO)]⟩
theorem of_ok (hx : Short x) (he : validE x = 0) (hks : KS x) (hn : mxS x x.nodes.length = (n : Int)) (hn2 : n ≤ 12) :
    ACall Tryd.prog 18 [.agg (Cells.cells x)] [] 0 (.tup [dgV ((fromT n (holdT x)).1.length == 0) n (fromT n (holdT x)).1 (fromT n (holdT x)).2, .val (.int .i64 0)]) [] := by
  have hv := PLift.up (valid_ok hx)
  rw [he] at hv
  have hp12 : 2 ^ n ≤ 2 ^ 12 := Nat.pow_le_pow_right (by omega) hn2
  have ht := PLift.up (table_ok (n := n) (A := 50) (c1 := Cells.cells x) (tab := holdT x) (by omega) (fun s hs => of1_ok he hx hks (by omega)))
  have hok := validE_ok he
  have hfew := hok.few
  have hnd := fun (j : Nat) (h : j < x.nodes.length) => (hok.node j h).srv
  have hbd := fun (j : Nat) (h : j ≤ x.nodes.length) => mxS_le (x := x) (B := 12) (N := x.nodes.length) (j := j) (by decide) (fun i hi => by have := hnd i hi; omega) h
  obtain ⟨N, hN⟩ : ∃ N, x.nodes.length = N := ⟨_, rfl⟩
  rw [hN] at hfew hnd hbd hn
  unfold dgV at *
  generalize ((fromT n (holdT x)).1.length == 0) = zb at ht ⊢
  generalize fromT n (holdT x) = R at ht ⊢
  clear hok
  have hm1 := dmy_def; have hkd := dmy_def
  refine ACall.enter Tryd.func18 rfl (by simp [Tryd.ntmps18]) (by simp) ?_; simp only [entry, idx, Tryd.ntmps18, List.length, List.map_cons, List.map_nil, List.append_nil, List.cons_append, List.nil_append, Nat.reduceAdd, Nat.zero_add, List.length_cons, List.length_nil]
  repeat' (first | ((first | refine AC_frzS (r := 11) 0 ?_ | refine AC_frzR (r := 11) 0 ?_); simp -dsimp (disch := try exact vD) only [push_cast, simprocAttr, hN, hn, hm1, hkd, mxS_0]; (repeat refine aI ?_); intro K hK; refine hK _ _ ?_; clear hK K) | (refine AC_loop_id ?_; refine AC_loop' [0, 1] ([0, 1].length) (ofI x N) (fun j => N - j.val) (⟨0, by omega⟩) rfl (by unfold ofI; (try simp only [List.cons_append, List.nil_append]); refine Sub.mk2 ?_; (simp -dsimp (disch := try exact vD) only [push_cast, simprocAttr, hN, hn, hm1, hkd, mxS_0]); (repeat refine aI ?_); first | done | exact vI) ?_; (rintro ⟨j, hj⟩; have hb1 := hbd j hj; rcases Nat.lt_or_eq_of_le hj with hjl | hjl <;> first | (have ej : N = j := hjl.symm; subst ej; (simp -dsimp (disch := try exact vD) only [push_cast, simprocAttr, ofI])) | (have hs1 := hnd j hjl; have hb2 := hbd (j + 1) (by omega); by_cases hkd : (x.nodes.getD j default).kind = 1 <;> first | (have hm1 := mxS_1 (x := x) hkd; (simp -dsimp (disch := try exact vD) only [push_cast, simprocAttr, ofI])) | (have hm1 := (mxS_2 (x := x) (j := j) hkd).symm; (simp -dsimp (disch := try exact vD) only [push_cast, simprocAttr, ofI]))))) | (refine Nxt_id ?_; refine Nxt.mk [0, 1] (⟨j + 1, by omega⟩) rfl (by unfold ofI; (try simp only [List.cons_append, List.nil_append]); refine Sub.mk2 ?_; (simp -dsimp (disch := try exact vD) only [push_cast, simprocAttr, hN, hn, hm1, hkd, mxS_0, hm1]); (repeat refine aI ?_); first | done | exact vI) (by first | omega | (dsimp only; omega) | (simp; done) | (simp; omega))) | apply AC_seq | apply AC_region_lit | ((first | refine AL_go rfl (fun K hK => ?_) | refine AL_go0 (fun K hK => ?_)); (first | refine R_callG (f := 27) [] 0 false ?_ | refine R_callG (f := 23) [] 0 false ?_); simp -dsimp (disch := try exact vD) only [push_cast, simprocAttr, hN, hn, hm1, hkd, mxS_0]; (repeat refine aI ?_); intro G hG; refine hG _ _ ?_; clear hG G; (first | refine ⟨_, _, hv.down, ?_⟩ | refine ⟨_, _, ht.down, ?_⟩); simp -dsimp (disch := try exact vD) only [push_cast, simprocAttr, hN, hn, hm1, hkd, mxS_0]; (repeat refine aI ?_); apply hK; clear hK K) | ((first | refine AL_go rfl (fun K hK => ?_) | refine AL_go0 (fun K hK => ?_)); (first | apply R_move | apply R_assign | apply Q_load | apply Q_loadAgg | apply Q_fieldAddr | apply Q_indexAddr | apply Q_indexArr | apply Q_len | apply Q_lenStr | apply Q_box | apply R_alloc | apply Q_store | apply Q_build | apply Q_buildArr | apply Q_max | apply Q_makeFunc | apply Q_eqAgg | apply Q_neqAgg | apply Q_neqSelf | apply Q_bin); simp -dsimp (disch := try exact vD) only [push_cast, simprocAttr, hN, hn, hm1, hkd, mxS_0]; (repeat refine aI ?_); apply hK; clear hK K) | ((first | refine AL_guard rfl rfl (fun K1 K2 h1 h2 => ?_) rfl | refine AC_cond_k (fun K1 K2 h1 h2 => ?_)); simp -dsimp (disch := try exact vD) only [push_cast, simprocAttr, hN, hn, hm1, hkd, mxS_0]; (first | (refine ⟨fun hc => ?_, fun hc => ?_⟩ <;> first | (exfalso; omega) | (exfalso; contradiction) | refine h1 ?_ | refine h2 ?_) | refine h1 ?_ | refine h2 ?_); all_goals clear h1 h2 K1 K2) | apply AL_nil | apply Thn_normal | apply Thn_ret | apply Thn_exit | apply Blk_normal | apply Blk_ret | apply Blk_here | (refine Blk_other rfl ?_) | apply AC_block | apply AC_exit | apply AC_skip | apply AC_ret)
  all_goals first
    | ((refine Ends.mk2 (by first | exact .inr rfl | exact .inl rfl) [] ?_; simp -dsimp (disch := try exact vD) only [push_cast, simprocAttr, Tryd.f18]; (repeat refine aI ?_); try (first | exact vI | fail)); done)
    | trace_state
end Go.Proofs.YtabafldpnkjboaaDoor
