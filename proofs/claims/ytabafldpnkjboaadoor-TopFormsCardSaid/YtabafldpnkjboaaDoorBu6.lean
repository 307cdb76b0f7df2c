/- The builders: Threshold, Majority, Byzantine, and the reference's. No condition. -/
import Derived.Test.YtabafldpnkjboaaDoorBuQ
import Derived.Test.YtabafldpnkjboaaDoorBpA
set_option linter.unusedVariables false
set_option linter.unusedSectionVars false
set_option linter.unusedSimpArgs false
set_option maxHeartbeats 1000000
set_option maxRecDepth 20000
namespace Go.Proofs.YtabafldpnkjboaaDoor
open Go Go.Sy Go.Bp
attribute [local irreducible] AO AL AC OpT ACall Ends DGo DRun Thn Blk Nxt
variable {l k w : List Int} {z zk wz : Bool} {n K i j m b c : Nat} {a x q f : Int} {kids : List Ex} {need : Int}
def xeV (r : Ex × Int) : AV := .tup [.agg (Cells.cells r.1), .val (.int .i64 r.2)]
theorem kS (h : l.length ≤ 1000) : KOkR (servs l) := by
  refine KOkR_of (b := 1) (c := 1000) (fun x hx => ?_) (by rw [servs_len]; exact h) (by omega) (by omega)
  obtain ⟨i, _, rfl⟩ := List.mem_map.1 hx; exact XF_srv i
def majE (a : Int) : Ex × Int := if a < 1 ∨ 12 < a then (default, 7) else (thr (a / 2 + 1) (servs (upTo 0 a.toNat)) true [], 0)
theorem majE_2 (h : ¬ (a < 1 ∨ 12 < a)) : majE a = (thr (a / 2 + 1) (servs (upTo 0 a.toNat)) true [], 0) := by unfold majE; rw [if_neg h]
theorem kU (h : n ≤ 1000) : KOkR (servs (upTo a n)) := kS (by rw [upTo_ln]; exact h)
theorem M_good (h : 1 ≤ n ∧ n ≤ 12) : ACall Tryd.prog 17 [.val (.int .i64 n)] [] 0 (xeV (majE n)) [] := by
  have hk := kU (a := 0) (n := n) (by omega)
  rw [majE_2 (by omega)]
  unfold xeV
  refine ACall.enter Tryd.func17 rfl (by simp [Tryd.ntmps17]) (by simp) ?_; simp only [entry, idx, Tryd.ntmps17, List.length, List.map_cons, List.map_nil, List.append_nil, List.cons_append, List.nil_append, Nat.reduceAdd, Nat.zero_add, List.length_cons, List.length_nil]
  repeat' (first | apply AC_seq | apply AC_region_lit | ((first | refine AL_go rfl (fun K hK => ?_) | refine AL_go0 (fun K hK => ?_)); (first | refine R_callG (f := 49) [] 0 false ?_ | refine R_callG (f := 48) [] 0 false ?_ | refine R_callG (f := 47) [] 0 false ?_); simp -dsimp (disch := try exact vD) only [push_cast, simprocAttr]; (repeat refine aI ?_); intro G hG; refine hG _ _ ?_; clear hG G; (first | refine ⟨_, _, upTo_ok (n := n) (by omega) (by omega), ?_⟩ | refine ⟨_, _, servers_ok (n := n) upTo_ln (by omega), ?_⟩ | refine ⟨_, _, thr_n hk.toKOk (by rw [servs_len, upTo_ln]), ?_⟩); simp -dsimp (disch := try exact vD) only [push_cast, simprocAttr]; (repeat refine aI ?_); apply hK; clear hK K) | ((first | refine AL_go rfl (fun K hK => ?_) | refine AL_go0 (fun K hK => ?_)); (first | apply R_move | apply R_assign | apply Q_pick | apply R_alloc | apply Q_store | apply Q_build | apply Q_buildArr | apply Q_bin); simp -dsimp (disch := try exact vD) only [push_cast, simprocAttr]; (repeat refine aI ?_); apply hK; clear hK K) | ((first | refine AL_guard rfl rfl (fun K1 K2 h1 h2 => ?_) rfl | refine AC_cond_k (fun K1 K2 h1 h2 => ?_)); simp -dsimp (disch := try exact vD) only [push_cast, simprocAttr]; (first | (refine ⟨fun hc => ?_, fun hc => ?_⟩ <;> first | (exfalso; omega) | (exfalso; contradiction) | refine h1 ?_ | refine h2 ?_) | refine h1 ?_ | refine h2 ?_); all_goals clear h1 h2 K1 K2) | apply AL_nil | apply Thn_normal | apply Thn_ret | apply Thn_exit | apply Blk_normal | apply Blk_ret | apply Blk_here | (refine Blk_other rfl ?_) | apply AC_block | apply AC_exit | apply AC_skip | apply AC_ret)
  all_goals (refine Ends.mk2 (by first | exact .inr rfl | exact .inl rfl) [] ?_; simp -dsimp (disch := try exact vD) only [push_cast, simprocAttr, Tryd.f17]; (repeat refine aI ?_); try (first | exact vI | fail))
end Go.Proofs.YtabafldpnkjboaaDoor
