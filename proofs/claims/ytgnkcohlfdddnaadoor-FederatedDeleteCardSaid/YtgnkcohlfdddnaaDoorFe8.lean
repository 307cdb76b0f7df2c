/- What a set blocks: the reference's Blocks, Spread of both sides. No condition. -/
import Derived.Test.YtgnkcohlfdddnaaDoorFe7
set_option linter.unusedVariables false
set_option linter.unusedSectionVars false
set_option linter.unusedSimpArgs false
set_option maxHeartbeats 2000000
set_option maxRecDepth 20000
namespace Go.Proofs.YtgnkcohlfdddnaaDoor
open Go Go.Sy Go.Bp
attribute [local irreducible] AO AL AC OpT ACall Ends DGo DRun Thn Blk Nxt
variable {z zl : Bool} {n i j m q s r L : Nat} {a b : Int} {x : Ex} {t : Nd} {l : List Ex}
attribute [local irreducible] memL mem itG grt isQ unQ
theorem full_in (hn : n ≤ 12) : ∀ i, bit (sdif (fullS n) s) i = true → i < n := fun i hi => by rw [bit_sdif, bit_full (by omega)] at hi; simp at hi; exact hi.1
def sprV (l : List Ex) (s : Nat) : Int := if chE l s = 0 then U (sdif (fullS l.length) (grt l (sdif (fullS l.length) s))) else 0
theorem spread_ok (hl : LOk l) (hL : l.length = L) : ACall Tryd.prog 18 [.isl zl (cR l) L, .val (.int .u16 (U s))] [] 0 (.tup [.val (.int .u16 (sprV l s)), .val (.int .i64 (chE l s))]) [] := by
  have hle := hl.le
  have h1 := PLift.up (within_ok (s := s) (zl := zl) hL (by omega) (hl.sh hL))
  have h2 := PLift.up (grt_ok (s := sdif (fullS L) s) (zl := zl) hl hL (fun i hi => by rw [hL]; exact full_in (by omega) i hi))
  refine ACall.enter Tryd.func18 rfl (by simp [Tryd.ntmps18]) (by simp) ?_; simp only [entry, idx, Tryd.ntmps18, List.length, List.map_cons, List.map_nil, List.append_nil, List.cons_append, List.nil_append, Nat.reduceAdd, Nat.zero_add, List.length_cons, List.length_nil]
  repeat' (first | (refine AC_seq ?_) | (refine AC_region_lit ?_) | ((first | refine AL_go rfl (fun K hK => ?_) | refine AL_go0 (fun K hK => ?_)); (first | refine R_callG (f := 46) [] 0 false ?_ | refine R_callG (f := 42) [] 0 false ?_ | refine R_callG (f := 47) [] 0 false ?_); simp -dsimp (disch := first | exact vD | fail) only [push_cast, simprocAttr]; (repeat (refine aI ?_)); intro G hG; refine hG _ _ ?_; clear hG G; (first | refine ⟨_, _, h1.down, ?_⟩ | refine ⟨_, _, full_ok (n := L), ?_⟩ | refine ⟨_, _, h2.down, ?_⟩); simp -dsimp (disch := first | exact vD | fail) only [push_cast, simprocAttr]; (repeat (refine aI ?_)); (first | refine hK _ _ _ ?_ | refine hK _ _ ?_); clear hK K) | ((first | refine AL_go rfl (fun K hK => ?_) | refine AL_go0 (fun K hK => ?_)); (first | refine R_move _ ?_ | refine R_assign _ ?_ | refine Q_len _ _ ?_ | refine Q_lenStr _ _ ?_ | refine Q_eqAgg _ _ _ _ ?_ | refine Q_neqAgg _ _ _ _ ?_ | refine Q_neqSelf _ _ _ _ ?_ | refine Q_bin _ _ _ _ _ ?_); simp -dsimp (disch := first | exact vD | fail) only [push_cast, simprocAttr]; (repeat (refine aI ?_)); (first | refine hK _ _ _ ?_ | refine hK _ _ ?_); clear hK K) | ((first | refine AL_guard rfl rfl (fun K1 K2 h1 h2 => ?_) rfl | refine AC_cond_k (fun K1 K2 h1 h2 => ?_)); simp -dsimp (disch := first | exact vD | fail) only [push_cast, simprocAttr]; (first | (refine ⟨fun hc => ?_, fun hc => ?_⟩ <;> first | (exfalso; omega) | (exfalso; contradiction) | refine h1 ?_ | refine h2 ?_) | refine h1 ?_ | refine h2 ?_); all_goals clear h1 h2 K1 K2) | (refine AL_nil ?_) | (refine Thn_normal ?_) | (refine Thn_ret ?_) | (refine Thn_exit ?_) | (refine Blk_normal ?_) | (refine Blk_ret ?_) | (refine Blk_here ?_) | (refine Blk_other rfl ?_) | (refine AC_block ?_) | (refine AC_exit ?_) | (refine AC_skip ?_) | (refine AC_ret ?_))
  all_goals first
    | (have e : sprV l s = 0 := (by unfold sprV; rw [if_neg (by assumption)]); (refine Ends.mk2 (by first | exact .inr rfl | exact .inl rfl) [] ?_; simp -dsimp (disch := first | exact vD | fail) only [push_cast, simprocAttr, Tryd.f18, e]; (repeat (refine aI ?_)); try (first | exact vI | fail)); done)
    | (have e0 : chE l s = 0 := Decidable.not_not.1 (by assumption); have e : sprV l s = U (sdif (fullS L) (grt l (sdif (fullS L) s))) := (by unfold sprV; rw [if_pos e0, hL]); rw [e0]; (refine Ends.mk2 (by first | exact .inr rfl | exact .inl rfl) [] ?_; simp -dsimp (disch := first | exact vD | fail) only [push_cast, simprocAttr, Tryd.f18, e]; (repeat (refine aI ?_)); try (first | exact vI | fail)); done)
    | trace_state
def rwI (zl : Bool) (l : List Ex) (L s : Nat) (r : {r : Nat // r ≤ L}) : St :=
  ⟨39, 0, [(0,.isl zl (cR l) L), (1,.val (.int .u16 (U (spA l L s r.val)))), (7,.val (.int .i64 r.val))], []⟩
def rwJ (zl : Bool) (l : List Ex) (L T r : Nat) (i : {i : Nat // i ≤ L}) : St :=
  ⟨39, 0, [(0,.isl zl (cR l) L), (1,.val (.int .u16 (U T))), (7,.val (.int .i64 r)), (8,.val (.int .u16 (U (blkA l (sdif (fullS L) T) T i.val)))), (9,.val (.int .i64 i.val))], []⟩
attribute [local irreducible] blkA spA
end Go.Proofs.YtgnkcohlfdddnaaDoor
