/- The law of TopForms. No condition. -/
import Derived.Test.YtabafldpnkjboaaDoorTm10
import Derived.Test.YtabafldpnkjboaaDoorTm11
set_option linter.unusedVariables false
set_option linter.unusedSectionVars false
set_option linter.unusedSimpArgs false
set_option maxHeartbeats 8000000
set_option maxRecDepth 20000
namespace Go.Proofs.YtabafldpnkjboaaDoor
open Go Go.Sy Go.Bp Go.Dg
attribute [local irreducible] AO AL AC OpT ACall Ends DGo DRun Thn Blk Nxt
variable {n N N' M G G' L s r r' : Nat} {z zf zd zd' ze zm zt : Bool} {x x2 : Ex} {f g B : List Nat} {F F' : List Fo} {p : Nat → Bool}
structure D8Ok (N : Nat) (B : List Nat) (L : Nat) : Prop where
  n : N < 256
  len : B.length = L
  lt : L < 2 ^ 47
def tfI (N : Nat) (z : Bool) (B : List Nat) (L : Nat) (zf : Bool) (f : List Nat) (M : Nat) (zt : Bool) (g : List Nat) (G n : Nat) (s : {s : Nat // s ≤ 2 ^ n}) : St :=
  ⟨141, 0, [(1,.pt 0 0), (3,.isl zf (cX f) M), (4,.val (.int .i64 n)), (14,.isl zt (cX g) G), (125,.val (.int .u16 (U (2 ^ n)))), (126,.val (.int .u16 (U s.val)))],
   [(0, some (.cells (d8 N z B L) 24))]⟩
theorem lawF_big (hd : D8Ok N B L) (hL : 20 < L) : ACall Tryd.prog 3 [.agg (d8 N z B L)] [] 0 (.val (.bool true)) [] := by
  have hof := PLift.up (of8_big (z := z) hd.n rfl hd.len hL hd.lt)
  generalize 1 + N % 6 = n at hof
  clear hd
  unfold d8 at *
  refine ACall.enter Tryd.func3 rfl (by simp [Tryd.ntmps3]) (by simp) ?_; simp only [entry, idx, Tryd.ntmps3, List.length, List.map_cons, List.map_nil, List.append_nil, List.cons_append, List.nil_append, Nat.reduceAdd, Nat.zero_add, List.length_cons, List.length_nil]
  repeat' (first | apply AC_seq | apply AC_region_lit | ((first | refine AL_go rfl (fun K hK => ?_) | refine AL_go0 (fun K hK => ?_) | refine DG_run (fun K hK => ?_)); (first | refine R_callG (f := 4) [] 0 false ?_ | refine R_callG (f := 5) [] 0 false ?_); simp -dsimp (disch := try exact vD) only [push_cast, simprocAttr]; (repeat refine aI ?_); intro G hG; refine hG _ _ ?_; clear hG G; (first | refine ⟨_, _, hof.down, ?_⟩ | refine ⟨_, _, awake12_ok, ?_⟩); simp -dsimp (disch := try exact vD) only [push_cast, simprocAttr]; (repeat refine aI ?_); apply hK; clear hK K) | ((first | refine AL_go rfl (fun K hK => ?_) | refine AL_go0 (fun K hK => ?_) | refine DG_run (fun K hK => ?_)); (first | apply R_move | apply R_assign | apply Q_load | apply Q_loadAgg | apply Q_pick | apply Q_not | apply Q_neg | apply Q_extract | apply Q_box | apply R_alloc | apply Q_store | apply Q_eqAgg | apply Q_neqAgg | apply Q_neqSelf | apply Q_bin); simp -dsimp (disch := try exact vD) only [push_cast, simprocAttr]; (repeat refine aI ?_); apply hK; clear hK K) | ((first | refine AL_guard rfl rfl (fun K1 K2 h1 h2 => ?_) rfl | refine AC_cond_k (fun K1 K2 h1 h2 => ?_) | refine DG_guard rfl rfl (fun K1 K2 h1 h2 => ?_)); simp -dsimp (disch := try exact vD) only [push_cast, simprocAttr]; (first | (refine ⟨fun hc => ?_, fun hc => ?_⟩ <;> first | (exfalso; omega) | (exfalso; contradiction) | refine h1 ?_ | refine h2 ?_) | refine h1 ?_ | refine h2 ?_); all_goals clear h1 h2 K1 K2) | (refine AC_draw (id := 22) (by kernel_rfl) [⟨0, [], [130, 132, 133, 134, 135, 136, 137], [], [], 0⟩, ⟨1, [], [129, 132, 133, 134, 135, 136, 137], [], [], 0⟩, ⟨2, [0, 1], [132, 133, 134, 135, 136, 137], [], [], 0⟩, ⟨3, [], [129, 130, 131, 133, 134, 135, 136, 137], [], [], 0⟩, ⟨4, [], [129, 130, 131, 132, 136], [], [], 0⟩, ⟨5, [4], [129, 130, 131, 132, 136], [], [], 0⟩, ⟨6, [4, 5], [129, 130, 131, 132, 136], [], [], 0⟩, ⟨7, [], [129, 130, 131, 132, 133, 134, 135], [], [], 0⟩, ⟨8, [4, 5, 6, 7], [129, 130, 131, 132], [], [], 0⟩, ⟨9, [0, 1, 2, 3, 4, 5, 6, 7, 8], [], [], [], 0⟩, ⟨10, [0, 1, 2, 3, 4, 5, 6, 7, 8, 9], [], [], [], 0⟩] (by kernel_rfl) (by kernel_rfl) (by kernel_rfl) ?_) | ((first | refine DG_next' (by kernel_rfl) (fun K hK => ?_) | refine DG_nil (by kernel_rfl) (fun K hK => ?_)); simp only [↓Go.Sy.dsnE_some, ↓Go.Sy.dsnE_none, ↓Go.Sy.dsnE_nil, ↓Go.Sy.dsnO_snoc, ↓Go.Sy.dsnO_nil, ↓Go.Sy.nidAt_snoc, ↓Go.Sy.nidAt_nil, push_cast, Nat.reduceLeDiff, Nat.reduceSub, Nat.reduceBEq, Nat.reduceEqDiff, Nat.reduceAdd, Nat.reduceLT, ↓reduceIte, reduceCtorEq]; refine hK _ _ _ ?_; clear hK K) | apply DG_go | apply AL_nil | apply Thn_normal | apply Thn_ret | apply Thn_exit | apply Blk_normal | apply Blk_ret | apply Blk_here | (refine Blk_other rfl ?_) | apply AC_block | apply AC_exit | apply AC_skip | apply AC_ret)
  all_goals first
    | ((refine Ends.mk2 (by first | exact .inr rfl | exact .inl rfl) [] ?_; simp -dsimp (disch := try exact vD) only [push_cast, simprocAttr, Tryd.f3]; (repeat refine aI ?_); try (first | exact vI | fail)); done)
    | trace_state
theorem lawF_c (hn : n ≤ 6)
    (hof : ACall Tryd.prog 4 [.agg (d8 N z B L)] [] 0 (.tup [.isl zf (cX f) M, .val (.int .i64 n), .val (.bool true)]) [])
    (hxo : ACall Tryd.prog 6 [.isl zf (cX f) M] [] 0 (.tup [.agg (Cells.cells x), .val (.int .i64 0)]) [])
    (hff : ACall Tryd.prog 7 [.val (.int .i64 n), .isl zf (cX f) M] [] 0 (.tup [.agg [.val (.int .i64 n), .isl zd (cR F) N', .val (.int .i64 r)], .val (.int .i64 0)]) [])
    (hag : ACall Tryd.prog 8 [.isl zf (cX f) M, .agg (Cells.cells x), .agg [.val (.int .i64 n), .isl zd (cR F) N', .val (.int .i64 r)], .val (.int .i64 n)] [] 0 (.val (.bool true)) [])
    (hfa : ACall Tryd.prog 9 [.agg (Cells.cells x)] [] 0 (.tup [.isl ze (cX f) M, .val (.int .i64 0)]) [])
    (hmi : ACall Tryd.prog 10 [.agg [.val (.int .i64 n), .isl zd (cR F) N', .val (.int .i64 r)]] [] 0 (.tup [.isl zm (cX f) M, .val (.int .i64 0)]) [])
    (hs1 : ACall Tryd.prog 11 [.isl ze (cX f) M, .isl zf (cX f) M] [] 0 (.val (.bool true)) [])
    (hs2 : ACall Tryd.prog 11 [.isl zm (cX f) M, .isl zf (cX f) M] [] 0 (.val (.bool true)) [])
    (htd : ACall Tryd.prog 12 [.isl zf (cX f) M] [] 0 (.tup [.isl zt (cX g) G, .val (.int .i64 0)]) [])
    (hxd : ACall Tryd.prog 13 [.agg (Cells.cells x)] [] 0 (.tup [.agg (Cells.cells x2), .val (.int .i64 0)]) [])
    (hdd : ACall Tryd.prog 14 [.agg [.val (.int .i64 n), .isl zd (cR F) N', .val (.int .i64 r)]] [] 0 (.tup [.agg [.val (.int .i64 n), .isl zd' (cR F') G', .val (.int .i64 r')], .val (.int .i64 0)]) [])
    (hag2 : ACall Tryd.prog 8 [.isl zt (cX g) G, .agg (Cells.cells x2), .agg [.val (.int .i64 n), .isl zd' (cR F') G', .val (.int .i64 r')], .val (.int .i64 n)] [] 0 (.val (.bool true)) [])
    (hac : ∀ q, q < 2 ^ n → ACall Tryd.prog 15 [.isl zt (cX g) G, .val (.int .u16 (U q))] [] 0 (.val (.bool (p q))) [])
    (hac2 : ∀ q, q < 2 ^ n → ACall Tryd.prog 15 [.isl zf (cX f) M, .val (.int .u16 (U (sdif (2 ^ n - 1) q)))] [] 0 (.val (.bool (!p q))) []) :
    ACall Tryd.prog 3 [.agg (d8 N z B L)] [] 0 (.val (.bool true)) [] := by
  have hp : 2 ^ n ≤ 2 ^ 6 := Nat.pow_le_pow_right (by omega) hn
  have hof := PLift.up hof; have hxo := PLift.up hxo; have hff := PLift.up hff; have hag := PLift.up hag; have hfa := PLift.up hfa; have hmi := PLift.up hmi; have hs1 := PLift.up hs1; have hs2 := PLift.up hs2; have htd := PLift.up htd; have hxd := PLift.up hxd; have hdd := PLift.up hdd; have hag2 := PLift.up hag2
  have hc := fun (t : Nat) (h : t < 2 ^ n) => PLift.up (And.intro (hac t h) (hac2 t h))
  clear hac hac2
  have hb := dmy_def
  unfold d8 at hof ⊢
  refine ACall.enter Tryd.func3 rfl (by simp [Tryd.ntmps3]) (by simp) ?_; simp only [entry, idx, Tryd.ntmps3, List.length, List.map_cons, List.map_nil, List.append_nil, List.cons_append, List.nil_append, Nat.reduceAdd, Nat.zero_add, List.length_cons, List.length_nil]
  repeat' (first | (refine AC_loop_id ?_; refine AC_loop' [0] ([0].length) (tfI N z B L zf f M zt g G n) (fun s => 2 ^ n - s.val) (⟨0, Nat.zero_le _⟩) rfl (by unfold tfI; (try simp only [List.cons_append, List.nil_append]); refine Sub.mk2 ?_; (simp -dsimp (disch := try exact vD) only [push_cast, simprocAttr, hb]); (repeat refine aI ?_); first | done | exact vI) ?_; (rintro ⟨s, hs⟩; rcases Nat.lt_or_eq_of_le hs with hsl | hsl <;> first | (have es : 2 ^ n = s := hsl.symm; (simp -dsimp (disch := try exact vD) only [push_cast, simprocAttr, tfI])) | (have hcs := hc s hsl; rcases Bool.eq_false_or_eq_true (p s) with hb | hb <;> rw [hb] at hcs <;> (simp -dsimp (disch := try exact vD) only [push_cast, simprocAttr, tfI])))) | (refine Nxt_id ?_; refine Nxt.mk [0] (⟨s + 1, by omega⟩) rfl (by unfold tfI; (try simp only [List.cons_append, List.nil_append]); refine Sub.mk2 ?_; (simp -dsimp (disch := try exact vD) only [push_cast, simprocAttr, hb]); (repeat refine aI ?_); first | done | exact vI) (by first | omega | (dsimp only; omega) | (simp; done) | (simp; omega))) | apply AC_seq | apply AC_region_lit | ((first | refine AL_go rfl (fun K hK => ?_) | refine AL_go0 (fun K hK => ?_) | refine DG_run (fun K hK => ?_)); (first | refine R_callG (f := 4) [] 0 false ?_ | refine R_callG (f := 5) [] 0 false ?_ | refine R_callG (f := 6) [] 0 false ?_ | refine R_callG (f := 7) [] 0 false ?_ | refine R_callG (f := 8) (dst := some 60) [] 0 false ?_ | refine R_callG (f := 9) [] 0 false ?_ | refine R_callG (f := 10) [] 0 false ?_ | refine R_callG (f := 11) (dst := some 82) [] 0 false ?_ | refine R_callG (f := 11) (dst := some 88) [] 0 false ?_ | refine R_callG (f := 12) [] 0 false ?_ | refine R_callG (f := 13) [] 0 false ?_ | refine R_callG (f := 14) [] 0 false ?_ | refine R_callG (f := 8) (dst := some 121) [] 0 false ?_ | refine R_callG (f := 15) (dst := some 131) [] 0 false ?_ | refine R_callG (f := 15) (dst := some 138) [] 0 false ?_); simp -dsimp (disch := try exact vD) only [push_cast, simprocAttr, hb]; (repeat refine aI ?_); intro G hG; refine hG _ _ ?_; clear hG G; (first | refine ⟨_, _, hof.down, ?_⟩ | refine ⟨_, _, awake12_ok, ?_⟩ | refine ⟨_, _, hxo.down, ?_⟩ | refine ⟨_, _, hff.down, ?_⟩ | refine ⟨_, _, hag.down, ?_⟩ | refine ⟨_, _, hfa.down, ?_⟩ | refine ⟨_, _, hmi.down, ?_⟩ | refine ⟨_, _, hs1.down, ?_⟩ | refine ⟨_, _, hs2.down, ?_⟩ | refine ⟨_, _, htd.down, ?_⟩ | refine ⟨_, _, hxd.down, ?_⟩ | refine ⟨_, _, hdd.down, ?_⟩ | refine ⟨_, _, hag2.down, ?_⟩ | refine ⟨_, _, hcs.down.1, ?_⟩ | refine ⟨_, _, hcs.down.2, ?_⟩); simp -dsimp (disch := try exact vD) only [push_cast, simprocAttr, hb]; (repeat refine aI ?_); apply hK; clear hK K) | ((first | refine AL_go rfl (fun K hK => ?_) | refine AL_go0 (fun K hK => ?_) | refine DG_run (fun K hK => ?_)); (first | apply R_move | apply R_assign | apply Q_load | apply Q_loadAgg | apply Q_pick | apply Q_not | apply Q_neg | apply Q_extract | apply Q_box | apply R_alloc | apply Q_store | apply Q_eqAgg | apply Q_neqAgg | apply Q_neqSelf | apply Q_bin); simp -dsimp (disch := try exact vD) only [push_cast, simprocAttr, hb]; (repeat refine aI ?_); apply hK; clear hK K) | ((first | refine AL_guard rfl rfl (fun K1 K2 h1 h2 => ?_) rfl | refine AC_cond_k (fun K1 K2 h1 h2 => ?_) | refine DG_guard rfl rfl (fun K1 K2 h1 h2 => ?_)); simp -dsimp (disch := try exact vD) only [push_cast, simprocAttr, hb]; (first | (refine ⟨fun hc => ?_, fun hc => ?_⟩ <;> first | (exfalso; omega) | (exfalso; contradiction) | refine h1 ?_ | refine h2 ?_) | refine h1 ?_ | refine h2 ?_); all_goals clear h1 h2 K1 K2) | (refine AC_draw (id := 22) (by kernel_rfl) [⟨0, [], [130, 132, 133, 134, 135, 136, 137], [], [], 0⟩, ⟨1, [], [129, 132, 133, 134, 135, 136, 137], [], [], 0⟩, ⟨2, [0, 1], [132, 133, 134, 135, 136, 137], [], [], 0⟩, ⟨3, [], [129, 130, 131, 133, 134, 135, 136, 137], [], [], 0⟩, ⟨4, [], [129, 130, 131, 132, 136], [], [], 0⟩, ⟨5, [4], [129, 130, 131, 132, 136], [], [], 0⟩, ⟨6, [4, 5], [129, 130, 131, 132, 136], [], [], 0⟩, ⟨7, [], [129, 130, 131, 132, 133, 134, 135], [], [], 0⟩, ⟨8, [4, 5, 6, 7], [129, 130, 131, 132], [], [], 0⟩, ⟨9, [0, 1, 2, 3, 4, 5, 6, 7, 8], [], [], [], 0⟩, ⟨10, [0, 1, 2, 3, 4, 5, 6, 7, 8, 9], [], [], [], 0⟩] (by kernel_rfl) (by kernel_rfl) (by kernel_rfl) ?_) | ((first | refine DG_next' (by kernel_rfl) (fun K hK => ?_) | refine DG_nil (by kernel_rfl) (fun K hK => ?_)); simp only [↓Go.Sy.dsnE_some, ↓Go.Sy.dsnE_none, ↓Go.Sy.dsnE_nil, ↓Go.Sy.dsnO_snoc, ↓Go.Sy.dsnO_nil, ↓Go.Sy.nidAt_snoc, ↓Go.Sy.nidAt_nil, push_cast, Nat.reduceLeDiff, Nat.reduceSub, Nat.reduceBEq, Nat.reduceEqDiff, Nat.reduceAdd, Nat.reduceLT, ↓reduceIte, reduceCtorEq]; refine hK _ _ _ ?_; clear hK K) | apply DG_go | apply AL_nil | apply Thn_normal | apply Thn_ret | apply Thn_exit | apply Blk_normal | apply Blk_ret | apply Blk_here | (refine Blk_other rfl ?_) | apply AC_block | apply AC_exit | apply AC_skip | apply AC_ret)
  all_goals first
    | ((refine Ends.mk2 (by first | exact .inr rfl | exact .inl rfl) [] ?_; simp -dsimp (disch := try exact vD) only [push_cast, simprocAttr, Tryd.f3]; (repeat refine aI ?_); try (first | exact vI | fail)); done)
    | trace_state
theorem lawForms (hd : D8Ok N B L) : ACall Tryd.prog 3 [.agg (d8 N z B L)] [] 0 (.val (.bool true)) [] := by
  rcases Nat.lt_or_ge 20 L with hL | hL
  · exact lawF_big hd hL
  · obtain ⟨n, hnn⟩ : ∃ n, 1 + N % 6 = n := ⟨_, rfl⟩
    have hof := of8_ok (z := z) hd.n hnn hd.len hL
    have hn6 : n ≤ 6 := by omega
    have h := FOk.of (B := B) (L := L) hn6 hL
    generalize leastL (kL n B L) = f at hof h
    have hp : 2 ^ n ≤ 2 ^ 6 := Nat.pow_le_pow_right (by omega) hn6
    have hD := from_DOk (n := n) (tab := hasA f) (by omega)
    have hv := (from_ok (n := n) (tab := hasA f)).val
    have hff := ff_ok (z := f.length == 0) (n := n) (xs := f) (M := f.length) (by omega) rfl (by have := h.few; omega) h.fam (min_sup hn6 h.min)
    unfold dgV at hff
    generalize fromT n (hasA f) = R at hff hD hv
    obtain ⟨F, r⟩ := R
    dsimp only at hff hD hv
    obtain ⟨ze, hfa⟩ := h.family
    obtain ⟨zt, htd⟩ := h.tdual (z := f.length == 0)
    have hms : mB (fun t => valN F t r) (subs (fullS n)) (subs (fullS n)).length = f := ((minOk (p := fun t => valN F t r) hn6).congr hv).uniq h.min
    have hmi := minimal_w (z := F.length == 0) hD rfl hn6 hms
    have hxd := xdual_ok h.fine.va h.fine.sh h.fine.kS h.fine.nzok
    have hdd := dual_ok (z := F.length == 0) hD
    have hD2 := from_DOk (n := n) (tab := fun t => !valN F (Go.Dg.cpl n t) r) (by omega)
    have hv2 := (from_ok (n := n) (tab := fun t => !valN F (Go.Dg.cpl n t) r)).val
    rw [← rgV_dg] at hdd
    unfold dgV at hdd
    generalize (fromT n fun t => !valN F (Go.Dg.cpl n t) r) = R at hdd hD2 hv2
    obtain ⟨F2, r2⟩ := R
    dsimp only at hdd hD2 hv2
    have hv3 : ∀ t, t < 2 ^ n → valN F2 t r2 = hitsA f t := fun t ht => by
      rw [hv2 t ht, hv _ (cpl_lt (n := n)), h.cpl ht]
    have hag := agree_ok (x := xF f) (f := f) (M := f.length) (z := f.length == 0) (zd := F.length == 0) (F := F) (N := F.length) (r := r) (tab := hasA f) hn6 (fun t ht => by
        have := eval_ok (x := xF f) (s := t) h.fine.va h.fine.sh h.fine.kS (by omega)
        rw [show hold (bitI (t % 65536)) (xF f) = hasA f t from h.hold] at this; exact this)
      (fun t ht => by have := eval_0 (z := F.length == 0) (t := t) hD rfl (by omega); rw [hv t ht] at this; exact this)
      (fun t ht => facc_ok rfl (by have := h.few; omega))
    have hgl : (dF f).length < 2 ^ 47 := by
      have h1 := mBl_le (p := hitsA f) (xs := subs (supA f f.length)) (j := (subs (supA f f.length)).length)
      have h2 := (subs_any_len (supA f f.length) (by have := h.sup; omega)).1
      unfold mBl at h1
      show (mB _ _ _).length < _; omega
    have hag2 := agree_ok (x := duX (xF f)) (f := dF f) (M := (dF f).length) (z := zt) (zd := F2.length == 0) (F := F2) (N := F2.length) (r := r2) (tab := hitsA f) hn6 (fun t ht => by
        have := eval_ok (x := duX (xF f)) (s := t) h.fine.du.va h.fine.du.sh h.fine.du.kS (by omega)
        rw [show hold (bitI (t % 65536)) (duX (xF f)) = hitsA f t from h.dhold ht] at this; exact this)
      (fun t ht => by have := eval_0 (z := F2.length == 0) (t := t) hD2 rfl (by omega); rw [hv3 t ht] at this; exact this)
      (fun t ht => by have := facc_ok (z := zt) (s := t) (qs := dF f) rfl hgl; rw [h.dhas ht] at this; exact this)
    exact lawF_c (p := hitsA f) hn6 hof h.xof hff hag hfa hmi (same7_ok rfl (by have := h.few; omega)) (same7_ok rfl (by have := h.few; omega)) htd hxd hdd hag2
      (fun q hq => by have := facc_ok (z := zt) (s := q) (qs := dF f) rfl hgl; rw [h.dhas hq] at this; exact this)
      (fun q hq => by
        have := facc_ok (z := f.length == 0) (s := sdif (2 ^ n - 1) q) (qs := f) rfl (by have := h.few; omega)
        have e : hasA f (sdif (2 ^ n - 1) q) = !hitsA f q := by
          rw [h.cpl hq, Bool.not_not, ← cpl_eq hq hn6]
          unfold hasA sdif; simp only [Nat.mod_mod]
        rw [e] at this; exact this)
end Go.Proofs.YtabafldpnkjboaaDoor
