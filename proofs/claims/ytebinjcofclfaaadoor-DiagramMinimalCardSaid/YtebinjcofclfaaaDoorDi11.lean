/- Diagrams: the program's Monotone. No condition. -/
import Derived.Test.YtebinjcofclfaaaDoorDk1
import Derived.Test.YtebinjcofclfaaaDoorDgA
set_option linter.unusedVariables false
set_option linter.unusedSectionVars false
set_option linter.unusedSimpArgs false
set_option maxHeartbeats 4000000
set_option maxRecDepth 20000
namespace Go.Proofs.YtebinjcofclfaaaDoor
open Go Go.Sy Go.Dg
attribute [local irreducible] AO AL AC OpT ACall Ends DGo DRun Thn Blk Nxt
abbrev KBl := List ((Nat × Nat) × Bool)
def lookB (K : KBl) (x : Nat × Nat) : Option Bool := (K.find? fun p => decide (p.1 = x)).map (·.2)
def kbM (K : KBl) : List (List Int × AV) := K.map fun p => (kP p.1, .val (.bool p.2))
variable {A F F1 F2 G : List Fo} {K K1 K2 K3 : KBl} {n N M k i m r a j w u v by1 ul uh vl vh su sv : Nat} {q : Int} {z : Bool} {b b1 b2 : Bool} {x : Nat × Nat}
theorem kbM_pv : PV (kbM K) := fun x hx => by
  obtain ⟨p, _, rfl⟩ := List.mem_map.1 hx
  exact ⟨_, rfl⟩
theorem kbM_ren {τ : Nat → Nat} : ((kbM K).map fun x => (x.1, ren τ x.2)) = kbM K := kbM_pv.id fun v => by simp [ren]
theorem kbM_toA {st : St} {σ : List Nat} {fz : Bool} {j : Nat} : ((kbM K).map fun x => (x.1, toA st σ fz (j + 1) x.2)) = kbM K := kbM_pv.id fun v => by simp [toA]
theorem kbM_bnd {j : Nat} : (∀ x ∈ kbM K, bnd j x.2) = True := kbM_pv.all fun v => by simp [bnd]
theorem kbM_noImm : (∀ x ∈ kbM K, noImm x.2) = True := kbM_pv.all fun v => by simp [noImm]
theorem kbM_nil : kbM [] = [] := rfl
theorem assoc_kbM : assoc (kbM K) (kP x) = (lookB K x).map fun w => .val (.bool w) := by
  unfold lookB
  induction K with
  | nil => rfl
  | cons p K ih =>
    obtain ⟨y, w⟩ := p
    have e : kbM ((y, w) :: K) = (kP y, .val (.bool w)) :: kbM K := rfl
    rw [e]
    simp only [assoc]
    by_cases h : y = x
    · subst h; simp
    · rw [if_neg (fun hc => h (kP_inj _ _ hc)), ih, List.find?_cons_of_neg (by simpa using h)]
theorem kbM_none (h : lookB K x = none) : assoc (kbM K) (kP x) = none := by rw [assoc_kbM, h]; rfl
theorem kbM_some (h : lookB K x = some b) : assoc (kbM K) (kP x) = some (.val (.bool b)) := by rw [assoc_kbM, h]; rfl
theorem kbM_put (h : lookB K x = none) : putM (kbM K) (kP x) (.val (.bool b)) = kbM (K ++ [(x, b)]) := by
  rw [put_new _ _ _ (kbM_none h)]; unfold kbM; rw [List.map_append]; rfl
attribute [push_cast] kbM_ren kbM_toA kbM_bnd kbM_noImm
theorem lookB_none (h : ∀ p ∈ K, ¬ p.1 = x) : lookB K x = none := by
  unfold lookB
  rw [List.find?_eq_none.2 (fun p hp => by simpa using h p hp)]; rfl
theorem lookB_none' (h : lookB K x = none) : ∀ p ∈ K, ¬ p.1 = x := by
  unfold lookB at h
  rw [Option.map_eq_none_iff, List.find?_eq_none] at h
  intro p hp; simpa using h p hp
abbrev wA (dd : List AV) : List AV := [.pt 1 0, .ipt dd 0, .pt 0 0]
abbrev wO (dd : List AV) (K : KBl) : List AObj := [.cells [.fn 62 (wA dd)] 98, .cells [.mp 2] 97, .map true 2 (kbM K)]
theorem within_t (h : u = v ∨ u = 0 ∨ v = 1) : ACall Tryd.prog 62 (.val (.int .i64 u) :: .val (.int .i64 v) :: wA (dC z n F N q)) (wO (dC z n F N q) K) 3 (.val (.bool true)) (wO (dC z n F N q) K) := by
  unfold wA wO dC
  have h1 := dmy_def; have h2 := dmy_def; have h3 := dmy_def
  rcases Decidable.em ((u : Int) = v) with h1 | h1 <;> rcases Decidable.em ((u : Int) = 0) with h2 | h2 <;> rcases Decidable.em ((v : Int) = 1) with h3 | h3
  all_goals try (exfalso; omega)
  all_goals clear h
  all_goals (refine ACall.enter Tryd.func62 rfl (by simp [Tryd.ntmps62]) (by simp) ?_; simp only [entry, idx, Tryd.ntmps62, List.length, List.map_cons, List.map_nil, List.append_nil, List.cons_append, List.nil_append, Nat.reduceAdd, Nat.zero_add, List.length_cons, List.length_nil])
  all_goals repeat' (first | apply AC_seq | apply AC_region_lit | ((first | refine AL_go rfl (fun K hK => ?_) | refine AL_go0 (fun K hK => ?_) | refine DG_run (fun K hK => ?_)); (first | apply R_move | apply R_assign | apply Q_load | apply Q_loadAgg | apply Q_pick | apply Q_extract | apply Q_build | apply Q_buildArr | apply Q_min | apply Q_lookup | apply Q_lookupOk | apply Q_mapUpdate | apply Q_eqAgg | apply Q_neqAgg | apply Q_neqSelf | apply Q_bin); simp -dsimp (disch := try exact vD) only [push_cast, simprocAttr, h1, h2, h3]; (repeat refine aI ?_); apply hK; clear hK K) | ((first | refine AL_guard rfl rfl (fun K1 K2 h1 h2 => ?_) rfl | refine AC_cond_k (fun K1 K2 h1 h2 => ?_) | refine DG_guard rfl rfl (fun K1 K2 h1 h2 => ?_)); simp -dsimp (disch := try exact vD) only [push_cast, simprocAttr, h1, h2, h3]; (first | (refine ⟨fun hc => ?_, fun hc => ?_⟩ <;> first | (exfalso; omega) | (exfalso; contradiction) | refine h1 ?_ | refine h2 ?_) | refine h1 ?_ | refine h2 ?_); all_goals clear h1 h2 K1 K2) | (refine AC_draw (id := 8) (by kernel_rfl) [⟨0, [], [44, 46, 47], [], [], 0⟩, ⟨1, [], [43, 46, 47], [], [], 0⟩, ⟨2, [0, 1], [46, 47], [], [], 0⟩, ⟨3, [], [43, 44, 45, 47], [], [], 0⟩, ⟨4, [], [43, 44, 45, 46], [], [], 0⟩, ⟨5, [0, 1, 2, 3, 4], [], [], [], 0⟩, ⟨6, [0, 1, 2, 3, 4, 5], [], [], [], 0⟩, ⟨7, [0, 1, 2, 3, 4, 5, 6], [], [], [], 0⟩] (by kernel_rfl) (by kernel_rfl) (by kernel_rfl) ?_) | ((first | refine DG_next' (by kernel_rfl) (fun K hK => ?_) | refine DG_nil (by kernel_rfl) (fun K hK => ?_)); simp only [↓Go.Sy.dsnE_some, ↓Go.Sy.dsnE_none, ↓Go.Sy.dsnE_nil, ↓Go.Sy.dsnO_snoc, ↓Go.Sy.dsnO_nil, ↓Go.Sy.nidAt_snoc, ↓Go.Sy.nidAt_nil, push_cast, Nat.reduceLeDiff, Nat.reduceSub, Nat.reduceBEq, Nat.reduceEqDiff, Nat.reduceAdd, Nat.reduceLT, ↓reduceIte, reduceCtorEq]; refine hK _ _ _ ?_; clear hK K) | apply DG_go | apply AL_nil | apply Thn_normal | apply Thn_ret | apply Thn_exit | apply Blk_normal | apply Blk_ret | apply Blk_here | (refine Blk_other rfl ?_) | apply AC_block | apply AC_exit | apply AC_skip | apply AC_ret)
  all_goals ((refine Ends.mk2 (by first | exact .inr rfl | exact .inl rfl) [0, 1, 2] ?_; simp -dsimp (disch := try exact vD) only [push_cast, simprocAttr, Tryd.f62]; (repeat refine aI ?_); try (first | exact vI | fail)))
theorem within_f (h : ¬ (u = v ∨ u = 0 ∨ v = 1)) (h' : u = 1 ∨ v = 0) : ACall Tryd.prog 62 (.val (.int .i64 u) :: .val (.int .i64 v) :: wA (dC z n F N q)) (wO (dC z n F N q) K) 3 (.val (.bool false)) (wO (dC z n F N q) K) := by
  unfold wA wO dC
  have h1 : ¬ (u : Int) = v := by omega
  have h2 : ¬ (u : Int) = 0 := by omega
  have h3 : ¬ (v : Int) = 1 := by omega
  have h4 := dmy_def; have h5 := dmy_def
  rcases Decidable.em ((u : Int) = 1) with h4 | h4 <;> rcases Decidable.em ((v : Int) = 0) with h5 | h5
  all_goals try (exfalso; omega)
  all_goals clear h h'
  all_goals (refine ACall.enter Tryd.func62 rfl (by simp [Tryd.ntmps62]) (by simp) ?_; simp only [entry, idx, Tryd.ntmps62, List.length, List.map_cons, List.map_nil, List.append_nil, List.cons_append, List.nil_append, Nat.reduceAdd, Nat.zero_add, List.length_cons, List.length_nil])
  all_goals repeat' (first | apply AC_seq | apply AC_region_lit | ((first | refine AL_go rfl (fun K hK => ?_) | refine AL_go0 (fun K hK => ?_) | refine DG_run (fun K hK => ?_)); (first | apply R_move | apply R_assign | apply Q_load | apply Q_loadAgg | apply Q_pick | apply Q_extract | apply Q_build | apply Q_buildArr | apply Q_min | apply Q_lookup | apply Q_lookupOk | apply Q_mapUpdate | apply Q_eqAgg | apply Q_neqAgg | apply Q_neqSelf | apply Q_bin); simp -dsimp (disch := try exact vD) only [push_cast, simprocAttr, h1, h2, h3, h4, h5]; (repeat refine aI ?_); apply hK; clear hK K) | ((first | refine AL_guard rfl rfl (fun K1 K2 h1 h2 => ?_) rfl | refine AC_cond_k (fun K1 K2 h1 h2 => ?_) | refine DG_guard rfl rfl (fun K1 K2 h1 h2 => ?_)); simp -dsimp (disch := try exact vD) only [push_cast, simprocAttr, h1, h2, h3, h4, h5]; (first | (refine ⟨fun hc => ?_, fun hc => ?_⟩ <;> first | (exfalso; omega) | (exfalso; contradiction) | refine h1 ?_ | refine h2 ?_) | refine h1 ?_ | refine h2 ?_); all_goals clear h1 h2 K1 K2) | (refine AC_draw (id := 8) (by kernel_rfl) [⟨0, [], [44, 46, 47], [], [], 0⟩, ⟨1, [], [43, 46, 47], [], [], 0⟩, ⟨2, [0, 1], [46, 47], [], [], 0⟩, ⟨3, [], [43, 44, 45, 47], [], [], 0⟩, ⟨4, [], [43, 44, 45, 46], [], [], 0⟩, ⟨5, [0, 1, 2, 3, 4], [], [], [], 0⟩, ⟨6, [0, 1, 2, 3, 4, 5], [], [], [], 0⟩, ⟨7, [0, 1, 2, 3, 4, 5, 6], [], [], [], 0⟩] (by kernel_rfl) (by kernel_rfl) (by kernel_rfl) ?_) | ((first | refine DG_next' (by kernel_rfl) (fun K hK => ?_) | refine DG_nil (by kernel_rfl) (fun K hK => ?_)); simp only [↓Go.Sy.dsnE_some, ↓Go.Sy.dsnE_none, ↓Go.Sy.dsnE_nil, ↓Go.Sy.dsnO_snoc, ↓Go.Sy.dsnO_nil, ↓Go.Sy.nidAt_snoc, ↓Go.Sy.nidAt_nil, push_cast, Nat.reduceLeDiff, Nat.reduceSub, Nat.reduceBEq, Nat.reduceEqDiff, Nat.reduceAdd, Nat.reduceLT, ↓reduceIte, reduceCtorEq]; refine hK _ _ _ ?_; clear hK K) | apply DG_go | apply AL_nil | apply Thn_normal | apply Thn_ret | apply Thn_exit | apply Blk_normal | apply Blk_ret | apply Blk_here | (refine Blk_other rfl ?_) | apply AC_block | apply AC_exit | apply AC_skip | apply AC_ret)
  all_goals ((refine Ends.mk2 (by first | exact .inr rfl | exact .inl rfl) [0, 1, 2] ?_; simp -dsimp (disch := try exact vD) only [push_cast, simprocAttr, Tryd.f62]; (repeat refine aI ?_); try (first | exact vI | fail)))
theorem within_hit (h : ¬ (u = v ∨ u = 0 ∨ v = 1)) (h' : ¬ (u = 1 ∨ v = 0)) (ha : assoc (kbM K) [(u : Int), (v : Int)] = some (.val (.bool b))) : ACall Tryd.prog 62 (.val (.int .i64 u) :: .val (.int .i64 v) :: wA (dC z n F N q)) (wO (dC z n F N q) K) 3 (.val (.bool b)) (wO (dC z n F N q) K) := by
  unfold wA wO dC
  have h1 : ¬ (u : Int) = v := by omega
  have h2 : ¬ (u : Int) = 0 := by omega
  have h3 : ¬ (v : Int) = 1 := by omega
  have h4 : ¬ (u : Int) = 1 := by omega
  have h5 : ¬ (v : Int) = 0 := by omega
  clear h h'
  refine ACall.enter Tryd.func62 rfl (by simp [Tryd.ntmps62]) (by simp) ?_; simp only [entry, idx, Tryd.ntmps62, List.length, List.map_cons, List.map_nil, List.append_nil, List.cons_append, List.nil_append, Nat.reduceAdd, Nat.zero_add, List.length_cons, List.length_nil]
  repeat' (first | apply AC_seq | apply AC_region_lit | ((first | refine AL_go rfl (fun K hK => ?_) | refine AL_go0 (fun K hK => ?_) | refine DG_run (fun K hK => ?_)); (first | apply R_move | apply R_assign | apply Q_load | apply Q_loadAgg | apply Q_pick | apply Q_extract | apply Q_build | apply Q_buildArr | apply Q_min | apply Q_lookup | apply Q_lookupOk | apply Q_mapUpdate | apply Q_eqAgg | apply Q_neqAgg | apply Q_neqSelf | apply Q_bin); simp -dsimp (disch := try exact vD) only [push_cast, simprocAttr, h1, h2, h3, h4, h5, ha]; (repeat refine aI ?_); apply hK; clear hK K) | ((first | refine AL_guard rfl rfl (fun K1 K2 h1 h2 => ?_) rfl | refine AC_cond_k (fun K1 K2 h1 h2 => ?_) | refine DG_guard rfl rfl (fun K1 K2 h1 h2 => ?_)); simp -dsimp (disch := try exact vD) only [push_cast, simprocAttr, h1, h2, h3, h4, h5, ha]; (first | (refine ⟨fun hc => ?_, fun hc => ?_⟩ <;> first | (exfalso; omega) | (exfalso; contradiction) | refine h1 ?_ | refine h2 ?_) | refine h1 ?_ | refine h2 ?_); all_goals clear h1 h2 K1 K2) | (refine AC_draw (id := 8) (by kernel_rfl) [⟨0, [], [44, 46, 47], [], [], 0⟩, ⟨1, [], [43, 46, 47], [], [], 0⟩, ⟨2, [0, 1], [46, 47], [], [], 0⟩, ⟨3, [], [43, 44, 45, 47], [], [], 0⟩, ⟨4, [], [43, 44, 45, 46], [], [], 0⟩, ⟨5, [0, 1, 2, 3, 4], [], [], [], 0⟩, ⟨6, [0, 1, 2, 3, 4, 5], [], [], [], 0⟩, ⟨7, [0, 1, 2, 3, 4, 5, 6], [], [], [], 0⟩] (by kernel_rfl) (by kernel_rfl) (by kernel_rfl) ?_) | ((first | refine DG_next' (by kernel_rfl) (fun K hK => ?_) | refine DG_nil (by kernel_rfl) (fun K hK => ?_)); simp only [↓Go.Sy.dsnE_some, ↓Go.Sy.dsnE_none, ↓Go.Sy.dsnE_nil, ↓Go.Sy.dsnO_snoc, ↓Go.Sy.dsnO_nil, ↓Go.Sy.nidAt_snoc, ↓Go.Sy.nidAt_nil, push_cast, Nat.reduceLeDiff, Nat.reduceSub, Nat.reduceBEq, Nat.reduceEqDiff, Nat.reduceAdd, Nat.reduceLT, ↓reduceIte, reduceCtorEq]; refine hK _ _ _ ?_; clear hK K) | apply DG_go | apply AL_nil | apply Thn_normal | apply Thn_ret | apply Thn_exit | apply Blk_normal | apply Blk_ret | apply Blk_here | (refine Blk_other rfl ?_) | apply AC_block | apply AC_exit | apply AC_skip | apply AC_ret)
  all_goals ((refine Ends.mk2 (by first | exact .inr rfl | exact .inl rfl) [0, 1, 2] ?_; simp -dsimp (disch := try exact vD) only [push_cast, simprocAttr, Tryd.f62, ha]; (repeat refine aI ?_); try (first | exact vI | fail)))
theorem within_no (h : ¬ (u = v ∨ u = 0 ∨ v = 1)) (h' : ¬ (u = 1 ∨ v = 0)) (ha : assoc (kbM K) [(u : Int), (v : Int)] = none) (hp : putM (kbM K1) [(u : Int), (v : Int)] (.val (.bool false)) = kbM K3)
    (hm : min su sv = by1) (hsu : ACall Tryd.prog 43 [apD z n F N q, .val (.int .i64 u)] [] 0 (.val (.int .i64 su)) []) (hsv : ACall Tryd.prog 43 [apD z n F N q, .val (.int .i64 v)] [] 0 (.val (.int .i64 sv)) [])
    (hku : ACall Tryd.prog 63 [apD z n F N q, .val (.int .i64 u), .val (.int .i64 by1)] [] 0 (.tup [.val (.int .i64 ul), .val (.int .i64 uh)]) []) (hkv : ACall Tryd.prog 63 [apD z n F N q, .val (.int .i64 v), .val (.int .i64 by1)] [] 0 (.tup [.val (.int .i64 vl), .val (.int .i64 vh)]) [])
    (i1 : ACall Tryd.prog 62 (.val (.int .i64 ul) :: .val (.int .i64 vl) :: wA (dC z n F N q)) (wO (dC z n F N q) K) 3 (.val (.bool false)) (wO (dC z n F N q) K1)) :
    ACall Tryd.prog 62 (.val (.int .i64 u) :: .val (.int .i64 v) :: wA (dC z n F N q)) (wO (dC z n F N q) K) 3 (.val (.bool false)) (wO (dC z n F N q) K3) := by
  have i1 := PLift.up i1; have hsu := PLift.up hsu; have hsv := PLift.up hsv; have hku := PLift.up hku; have hkv := PLift.up hkv
  unfold wA wO dC at *
  unfold apD at *
  have h1 : ¬ (u : Int) = v := by omega
  have h2 : ¬ (u : Int) = 0 := by omega
  have h3 : ¬ (v : Int) = 1 := by omega
  have h4 : ¬ (u : Int) = 1 := by omega
  have h5 : ¬ (v : Int) = 0 := by omega
  have h6 : min (su : Int) (sv : Int) = (by1 : Int) := by omega
  clear h h' hm
  refine ACall.enter Tryd.func62 rfl (by simp [Tryd.ntmps62]) (by simp) ?_; simp only [entry, idx, Tryd.ntmps62, List.length, List.map_cons, List.map_nil, List.append_nil, List.cons_append, List.nil_append, Nat.reduceAdd, Nat.zero_add, List.length_cons, List.length_nil]
  repeat' (first | apply AC_seq | apply AC_region_lit | ((first | refine AL_go rfl (fun K hK => ?_) | refine AL_go0 (fun K hK => ?_) | refine DG_run (fun K hK => ?_)); (first | refine R_callG (f := 43) (dst := some 45) [] 0 false ?_ | refine R_callG (f := 43) (dst := some 48) [] 0 false ?_ | refine R_callG (f := 63) (dst := some 54) [] 0 false ?_ | refine R_callG (f := 63) (dst := some 61) [] 0 false ?_ | refine R_callFnG (f := 62) (dst := some 67) [0, 1, 2] 3 false ?_); simp -dsimp (disch := try exact vD) only [push_cast, simprocAttr, h1, h2, h3, h4, h5, h6, ha]; (repeat refine aI ?_); intro G hG; refine hG _ _ ?_; clear hG G; (first | refine ⟨_, _, hsu.down, ?_⟩ | refine ⟨_, _, hsv.down, ?_⟩ | refine ⟨_, _, hku.down, ?_⟩ | refine ⟨_, _, hkv.down, ?_⟩ | refine ⟨_, _, i1.down, ?_⟩); simp -dsimp (disch := try exact vD) only [push_cast, simprocAttr, h1, h2, h3, h4, h5, h6, ha]; (repeat refine aI ?_); apply hK; clear hK K) | ((first | refine AL_go rfl (fun K hK => ?_) | refine AL_go0 (fun K hK => ?_) | refine DG_run (fun K hK => ?_)); (first | apply R_move | apply R_assign | apply Q_load | apply Q_loadAgg | apply Q_pick | apply Q_extract | apply Q_build | apply Q_buildArr | apply Q_min | apply Q_lookup | apply Q_lookupOk | apply Q_mapUpdate | apply Q_eqAgg | apply Q_neqAgg | apply Q_neqSelf | apply Q_bin); simp -dsimp (disch := try exact vD) only [push_cast, simprocAttr, h1, h2, h3, h4, h5, h6, ha]; (repeat refine aI ?_); apply hK; clear hK K) | ((first | refine AL_guard rfl rfl (fun K1 K2 h1 h2 => ?_) rfl | refine AC_cond_k (fun K1 K2 h1 h2 => ?_) | refine DG_guard rfl rfl (fun K1 K2 h1 h2 => ?_)); simp -dsimp (disch := try exact vD) only [push_cast, simprocAttr, h1, h2, h3, h4, h5, h6, ha]; (first | (refine ⟨fun hc => ?_, fun hc => ?_⟩ <;> first | (exfalso; omega) | (exfalso; contradiction) | refine h1 ?_ | refine h2 ?_) | refine h1 ?_ | refine h2 ?_); all_goals clear h1 h2 K1 K2) | (refine AC_draw (id := 8) (by kernel_rfl) [⟨0, [], [44, 46, 47], [], [], 0⟩, ⟨1, [], [43, 46, 47], [], [], 0⟩, ⟨2, [0, 1], [46, 47], [], [], 0⟩, ⟨3, [], [43, 44, 45, 47], [], [], 0⟩, ⟨4, [], [43, 44, 45, 46], [], [], 0⟩, ⟨5, [0, 1, 2, 3, 4], [], [], [], 0⟩, ⟨6, [0, 1, 2, 3, 4, 5], [], [], [], 0⟩, ⟨7, [0, 1, 2, 3, 4, 5, 6], [], [], [], 0⟩] (by kernel_rfl) (by kernel_rfl) (by kernel_rfl) ?_) | ((first | refine DG_next' (by kernel_rfl) (fun K hK => ?_) | refine DG_nil (by kernel_rfl) (fun K hK => ?_)); simp only [↓Go.Sy.dsnE_some, ↓Go.Sy.dsnE_none, ↓Go.Sy.dsnE_nil, ↓Go.Sy.dsnO_snoc, ↓Go.Sy.dsnO_nil, ↓Go.Sy.nidAt_snoc, ↓Go.Sy.nidAt_nil, push_cast, Nat.reduceLeDiff, Nat.reduceSub, Nat.reduceBEq, Nat.reduceEqDiff, Nat.reduceAdd, Nat.reduceLT, ↓reduceIte, reduceCtorEq]; refine hK _ _ _ ?_; clear hK K) | apply DG_go | apply AL_nil | apply Thn_normal | apply Thn_ret | apply Thn_exit | apply Blk_normal | apply Blk_ret | apply Blk_here | (refine Blk_other rfl ?_) | apply AC_block | apply AC_exit | apply AC_skip | apply AC_ret)
  all_goals first
    | ((refine Ends.mk2 (by first | exact .inr rfl | exact .inl rfl) [0, 1, 2] ?_; simp -dsimp (disch := try exact vD) only [push_cast, simprocAttr, Tryd.f62, ha, hp]; (repeat refine aI ?_); try (first | exact vI | fail)); done)
    | trace_state
theorem within_yes (h : ¬ (u = v ∨ u = 0 ∨ v = 1)) (h' : ¬ (u = 1 ∨ v = 0)) (ha : assoc (kbM K) [(u : Int), (v : Int)] = none) (hp : putM (kbM K2) [(u : Int), (v : Int)] (.val (.bool b)) = kbM K3)
    (hm : min su sv = by1) (hsu : ACall Tryd.prog 43 [apD z n F N q, .val (.int .i64 u)] [] 0 (.val (.int .i64 su)) []) (hsv : ACall Tryd.prog 43 [apD z n F N q, .val (.int .i64 v)] [] 0 (.val (.int .i64 sv)) [])
    (hku : ACall Tryd.prog 63 [apD z n F N q, .val (.int .i64 u), .val (.int .i64 by1)] [] 0 (.tup [.val (.int .i64 ul), .val (.int .i64 uh)]) []) (hkv : ACall Tryd.prog 63 [apD z n F N q, .val (.int .i64 v), .val (.int .i64 by1)] [] 0 (.tup [.val (.int .i64 vl), .val (.int .i64 vh)]) [])
    (i1 : ACall Tryd.prog 62 (.val (.int .i64 ul) :: .val (.int .i64 vl) :: wA (dC z n F N q)) (wO (dC z n F N q) K) 3 (.val (.bool true)) (wO (dC z n F N q) K1))
    (i2 : ACall Tryd.prog 62 (.val (.int .i64 uh) :: .val (.int .i64 vh) :: wA (dC z n F N q)) (wO (dC z n F N q) K1) 3 (.val (.bool b)) (wO (dC z n F N q) K2)) :
    ACall Tryd.prog 62 (.val (.int .i64 u) :: .val (.int .i64 v) :: wA (dC z n F N q)) (wO (dC z n F N q) K) 3 (.val (.bool b)) (wO (dC z n F N q) K3) := by
  have i1 := PLift.up i1; have i2 := PLift.up i2; have hsu := PLift.up hsu; have hsv := PLift.up hsv; have hku := PLift.up hku; have hkv := PLift.up hkv
  unfold wA wO dC at *
  unfold apD at *
  have h1 : ¬ (u : Int) = v := by omega
  have h2 : ¬ (u : Int) = 0 := by omega
  have h3 : ¬ (v : Int) = 1 := by omega
  have h4 : ¬ (u : Int) = 1 := by omega
  have h5 : ¬ (v : Int) = 0 := by omega
  have h6 : min (su : Int) (sv : Int) = (by1 : Int) := by omega
  clear h h' hm
  refine ACall.enter Tryd.func62 rfl (by simp [Tryd.ntmps62]) (by simp) ?_; simp only [entry, idx, Tryd.ntmps62, List.length, List.map_cons, List.map_nil, List.append_nil, List.cons_append, List.nil_append, Nat.reduceAdd, Nat.zero_add, List.length_cons, List.length_nil]
  repeat' (first | apply AC_seq | apply AC_region_lit | ((first | refine AL_go rfl (fun K hK => ?_) | refine AL_go0 (fun K hK => ?_) | refine DG_run (fun K hK => ?_)); (first | refine R_callG (f := 43) (dst := some 45) [] 0 false ?_ | refine R_callG (f := 43) (dst := some 48) [] 0 false ?_ | refine R_callG (f := 63) (dst := some 54) [] 0 false ?_ | refine R_callG (f := 63) (dst := some 61) [] 0 false ?_ | refine R_callFnG (f := 62) (dst := some 67) [0, 1, 2] 3 false ?_ | refine R_callFnG (f := 62) (dst := some 72) [0, 1, 2] 3 false ?_); simp -dsimp (disch := try exact vD) only [push_cast, simprocAttr, h1, h2, h3, h4, h5, h6, ha]; (repeat refine aI ?_); intro G hG; refine hG _ _ ?_; clear hG G; (first | refine ⟨_, _, hsu.down, ?_⟩ | refine ⟨_, _, hsv.down, ?_⟩ | refine ⟨_, _, hku.down, ?_⟩ | refine ⟨_, _, hkv.down, ?_⟩ | refine ⟨_, _, i1.down, ?_⟩ | refine ⟨_, _, i2.down, ?_⟩); simp -dsimp (disch := try exact vD) only [push_cast, simprocAttr, h1, h2, h3, h4, h5, h6, ha]; (repeat refine aI ?_); apply hK; clear hK K) | ((first | refine AL_go rfl (fun K hK => ?_) | refine AL_go0 (fun K hK => ?_) | refine DG_run (fun K hK => ?_)); (first | apply R_move | apply R_assign | apply Q_load | apply Q_loadAgg | apply Q_pick | apply Q_extract | apply Q_build | apply Q_buildArr | apply Q_min | apply Q_lookup | apply Q_lookupOk | apply Q_mapUpdate | apply Q_eqAgg | apply Q_neqAgg | apply Q_neqSelf | apply Q_bin); simp -dsimp (disch := try exact vD) only [push_cast, simprocAttr, h1, h2, h3, h4, h5, h6, ha]; (repeat refine aI ?_); apply hK; clear hK K) | ((first | refine AL_guard rfl rfl (fun K1 K2 h1 h2 => ?_) rfl | refine AC_cond_k (fun K1 K2 h1 h2 => ?_) | refine DG_guard rfl rfl (fun K1 K2 h1 h2 => ?_)); simp -dsimp (disch := try exact vD) only [push_cast, simprocAttr, h1, h2, h3, h4, h5, h6, ha]; (first | (refine ⟨fun hc => ?_, fun hc => ?_⟩ <;> first | (exfalso; omega) | (exfalso; contradiction) | refine h1 ?_ | refine h2 ?_) | refine h1 ?_ | refine h2 ?_); all_goals clear h1 h2 K1 K2) | (refine AC_draw (id := 8) (by kernel_rfl) [⟨0, [], [44, 46, 47], [], [], 0⟩, ⟨1, [], [43, 46, 47], [], [], 0⟩, ⟨2, [0, 1], [46, 47], [], [], 0⟩, ⟨3, [], [43, 44, 45, 47], [], [], 0⟩, ⟨4, [], [43, 44, 45, 46], [], [], 0⟩, ⟨5, [0, 1, 2, 3, 4], [], [], [], 0⟩, ⟨6, [0, 1, 2, 3, 4, 5], [], [], [], 0⟩, ⟨7, [0, 1, 2, 3, 4, 5, 6], [], [], [], 0⟩] (by kernel_rfl) (by kernel_rfl) (by kernel_rfl) ?_) | ((first | refine DG_next' (by kernel_rfl) (fun K hK => ?_) | refine DG_nil (by kernel_rfl) (fun K hK => ?_)); simp only [↓Go.Sy.dsnE_some, ↓Go.Sy.dsnE_none, ↓Go.Sy.dsnE_nil, ↓Go.Sy.dsnO_snoc, ↓Go.Sy.dsnO_nil, ↓Go.Sy.nidAt_snoc, ↓Go.Sy.nidAt_nil, push_cast, Nat.reduceLeDiff, Nat.reduceSub, Nat.reduceBEq, Nat.reduceEqDiff, Nat.reduceAdd, Nat.reduceLT, ↓reduceIte, reduceCtorEq]; refine hK _ _ _ ?_; clear hK K) | apply DG_go | apply AL_nil | apply Thn_normal | apply Thn_ret | apply Thn_exit | apply Blk_normal | apply Blk_ret | apply Blk_here | (refine Blk_other rfl ?_) | apply AC_block | apply AC_exit | apply AC_skip | apply AC_ret)
  all_goals first
    | ((refine Ends.mk2 (by first | exact .inr rfl | exact .inl rfl) [0, 1, 2] ?_; simp -dsimp (disch := try exact vD) only [push_cast, simprocAttr, Tryd.f62, ha, hp]; (repeat refine aI ?_); try (first | exact vI | fail)); done)
    | trace_state
theorem wgr_t (h : x.1 = x.2 ∨ x.1 = 0 ∨ x.2 = 1) : wgr F n (k + 1) x K = (K, true) := by unfold wgr; rw [if_pos h]
theorem wgr_f (h : ¬ (x.1 = x.2 ∨ x.1 = 0 ∨ x.2 = 1)) (h' : x.1 = 1 ∨ x.2 = 0) : wgr F n (k + 1) x K = (K, false) := by unfold wgr; rw [if_neg h, if_pos h']
theorem wgr_hit (h : ¬ (x.1 = x.2 ∨ x.1 = 0 ∨ x.2 = 1)) (h' : ¬ (x.1 = 1 ∨ x.2 = 0)) (hl : lookB K x = some b) : wgr F n (k + 1) x K = (K, b) := by
  unfold wgr; rw [if_neg h, if_neg h']; unfold lookB at hl; rw [hl]
theorem wgr_no (h : ¬ (x.1 = x.2 ∨ x.1 = 0 ∨ x.2 = 1)) (h' : ¬ (x.1 = 1 ∨ x.2 = 0)) (hl : lookB K x = none) (h1 : wgr F n k (kid0 F n x.1 (by2 F F n x), kid0 F n x.2 (by2 F F n x)) K = (K1, false)) : wgr F n (k + 1) x K = (K1 ++ [(x, false)], false) := by
  unfold wgr; rw [if_neg h, if_neg h']; unfold lookB at hl; rw [hl]; simp [h1]
theorem wgr_yes (h : ¬ (x.1 = x.2 ∨ x.1 = 0 ∨ x.2 = 1)) (h' : ¬ (x.1 = 1 ∨ x.2 = 0)) (hl : lookB K x = none) (h1 : wgr F n k (kid0 F n x.1 (by2 F F n x), kid0 F n x.2 (by2 F F n x)) K = (K1, true)) (h2 : wgr F n k (kid1 F n x.1 (by2 F F n x), kid1 F n x.2 (by2 F F n x)) K1 = (K2, b)) : wgr F n (k + 1) x K = (K2 ++ [(x, b)], b) := by
  unfold wgr; rw [if_neg h, if_neg h']; unfold lookB at hl; rw [hl]; simp [h1, h2]
structure WKid (F : List Fo) (n : Nat) (x : Nat × Nat) : Prop where
  a0 : kid0 F n x.1 (by2 F F n x) < F.length + 2
  b0 : kid0 F n x.2 (by2 F F n x) < F.length + 2
  a1 : kid1 F n x.1 (by2 F F n x) < F.length + 2
  b1 : kid1 F n x.2 (by2 F F n x) < F.length + 2
  r0 : kid0 F n x.1 (by2 F F n x) + kid0 F n x.2 (by2 F F n x) < x.1 + x.2
  r1 : kid1 F n x.1 (by2 F F n x) + kid1 F n x.2 (by2 F F n x) < x.1 + x.2
theorem wkid (hg : Go.Dg.Good n F) (h1 : x.1 < F.length + 2) (h2 : x.2 < F.length + 2) (c1 : ¬ (x.1 = x.2 ∨ x.1 = 0 ∨ x.2 = 1)) (c2 : ¬ (x.1 = 1 ∨ x.2 = 0)) : WKid F n x := by
  have hbn : by2 F F n x < n := by
    unfold by2
    have := srv_lt hg h1 (by omega)
    omega
  have ka := kid_ok hg h1 (b := by2 F F n x) (by unfold by2; omega) hbn
  have kb := kid_ok hg h2 (b := by2 F F n x) (by unfold by2; omega) hbn
  have a0 := ka.lt0.2.1; have b0 := kb.lt0.2.1; have a1 := ka.lt1.2.1; have b1 := kb.lt1.2.1
  have hr : kid0 F n x.1 (by2 F F n x) + kid0 F n x.2 (by2 F F n x) < x.1 + x.2 ∧ kid1 F n x.1 (by2 F F n x) + kid1 F n x.2 (by2 F F n x) < x.1 + x.2 := by
    have : srvF n F x.1 = by2 F F n x ∨ srvF n F x.2 = by2 F F n x := by unfold by2; omega
    rcases this with e | e
    · have := ka.ev e; omega
    · have := kb.ev e; omega
  exact ⟨ka.lt0.1, kb.lt0.1, ka.lt1.1, kb.lt1.1, hr.1, hr.2⟩
theorem wgr_keys (hg : Go.Dg.Good n F) : ∀ (k : Nat) (x : Nat × Nat) (K : KBl), x.1 < F.length + 2 → x.2 < F.length + 2 → ∀ p ∈ (wgr F n k x K).1, p ∈ K ∨ p.1.1 + p.1.2 ≤ x.1 + x.2 := by
  intro k
  induction k with
  | zero => intro x K _ _ p hp; exact .inl hp
  | succ k ih =>
    intro x K hx hy p hp
    by_cases c1 : x.1 = x.2 ∨ x.1 = 0 ∨ x.2 = 1
    · rw [wgr_t c1] at hp; exact .inl hp
    · by_cases c2 : x.1 = 1 ∨ x.2 = 0
      · rw [wgr_f c1 c2] at hp; exact .inl hp
      · have hk := wkid hg hx hy c1 c2
        have k0 := hk.r0; have k1 := hk.r1
        cases hl : lookB K x with
        | some b => rw [wgr_hit c1 c2 hl] at hp; exact .inl hp
        | none =>
          have i0 := ih (kid0 F n x.1 (by2 F F n x), kid0 F n x.2 (by2 F F n x)) K hk.a0 hk.b0
          generalize e0 : wgr F n k (kid0 F n x.1 (by2 F F n x), kid0 F n x.2 (by2 F F n x)) K = R0 at i0
          obtain ⟨K1, b1⟩ := R0
          dsimp only at i0
          have last : ∀ b, p = (x, b) → p ∈ K ∨ p.1.1 + p.1.2 ≤ x.1 + x.2 := fun b e => by rw [e]; exact .inr (Nat.le_refl _)
          have old : p ∈ K1 → p ∈ K ∨ p.1.1 + p.1.2 ≤ x.1 + x.2 := fun h => (i0 p h).imp id fun h => by omega
          cases b1 with
          | false =>
            rw [wgr_no c1 c2 hl e0] at hp
            rcases List.mem_append.1 hp with h | h
            · exact old h
            · exact last _ (List.mem_singleton.1 h)
          | true =>
            have i1 := ih (kid1 F n x.1 (by2 F F n x), kid1 F n x.2 (by2 F F n x)) K1 hk.a1 hk.b1
            generalize e1 : wgr F n k (kid1 F n x.1 (by2 F F n x), kid1 F n x.2 (by2 F F n x)) K1 = R1 at i1
            obtain ⟨K2, b2⟩ := R1
            dsimp only at i1
            rw [wgr_yes c1 c2 hl e0 e1] at hp
            rcases List.mem_append.1 hp with h | h
            · rcases i1 p h with h | h
              · exact old h
              · exact .inr (by omega)
            · exact last _ (List.mem_singleton.1 h)
theorem within_ok (hg : Go.Dg.Good n F) (hN : F.length = N) (hN2 : N < 2 ^ 40) : ∀ (k : Nat) (x : Nat × Nat) (K : KBl), x.1 + x.2 < k → x.1 < N + 2 → x.2 < N + 2 →
    ACall Tryd.prog 62 (.val (.int .i64 x.1) :: .val (.int .i64 x.2) :: wA (dC z n F N q)) (wO (dC z n F N q) K) 3 (.val (.bool (wgr F n k x K).2)) (wO (dC z n F N q) (wgr F n k x K).1) := by
  intro k
  induction k with
  | zero => intro x K h; omega
  | succ k ih =>
    intro x K hr hx hy
    have hx' : x.1 < F.length + 2 := by omega
    have hy' : x.2 < F.length + 2 := by omega
    by_cases c1 : x.1 = x.2 ∨ x.1 = 0 ∨ x.2 = 1
    · rw [wgr_t c1]; exact within_t c1
    · by_cases c2 : x.1 = 1 ∨ x.2 = 0
      · rw [wgr_f c1 c2]; exact within_f c1 c2
      · have hk := wkid hg hx' hy' c1 c2
        have k0 := hk.r0; have k1 := hk.r1
        cases hl : lookB K x with
        | some b =>
          have ha := kbM_some hl
          rw [wgr_hit c1 c2 hl]; exact within_hit c1 c2 ha
        | none =>
          have ha := kbM_none hl
          have hsu := server_ok (z := z) (n := n) (q := q) hN hN2 hx
          have hsv := server_ok (z := z) (n := n) (q := q) hN hN2 hy
          have hku := kids_ok (z := z) (n := n) (q := q) (by1 := by2 F F n x) hN hN2 hx
          have hkv := kids_ok (z := z) (n := n) (q := q) (by1 := by2 F F n x) hN hN2 hy
          have y0 := wgr_keys hg k (kid0 F n x.1 (by2 F F n x), kid0 F n x.2 (by2 F F n x)) K hk.a0 hk.b0
          have i0 := ih (kid0 F n x.1 (by2 F F n x), kid0 F n x.2 (by2 F F n x)) K (by dsimp only; omega) (by have := hk.a0; dsimp only; omega) (by have := hk.b0; dsimp only; omega)
          generalize e0 : wgr F n k (kid0 F n x.1 (by2 F F n x), kid0 F n x.2 (by2 F F n x)) K = R0 at i0 y0
          obtain ⟨K1, b1⟩ := R0
          dsimp only at i0 y0
          have l1 : lookB K1 x = none := lookB_none fun p hp e => by
            rcases y0 p hp with h | h
            · exact lookB_none' hl p h e
            · rw [e] at h; omega
          cases b1 with
          | false =>
            have hp := kbM_put (b := false) l1
            rw [wgr_no c1 c2 hl e0]
            exact within_no c1 c2 ha hp rfl hsu hsv hku hkv i0
          | true =>
            have y1 := wgr_keys hg k (kid1 F n x.1 (by2 F F n x), kid1 F n x.2 (by2 F F n x)) K1 hk.a1 hk.b1
            have i1 := ih (kid1 F n x.1 (by2 F F n x), kid1 F n x.2 (by2 F F n x)) K1 (by dsimp only; omega) (by have := hk.a1; dsimp only; omega) (by have := hk.b1; dsimp only; omega)
            generalize e1 : wgr F n k (kid1 F n x.1 (by2 F F n x), kid1 F n x.2 (by2 F F n x)) K1 = R1 at i1 y1
            obtain ⟨K2, b2⟩ := R1
            dsimp only at i1 y1
            have l2 : lookB K2 x = none := lookB_none fun p hp e => by
              rcases y1 p hp with h | h
              · exact lookB_none' l1 p h e
              · rw [e] at h; omega
            have hp := kbM_put (b := b2) l2
            rw [wgr_yes c1 c2 hl e0 e1]
            exact within_yes c1 c2 ha hp rfl hsu hsv hku hkv i0 i1
theorem w2_ok (h : ACall Tryd.prog 62 (.val (.int .i64 u) :: .val (.int .i64 v) :: wA (dC z n F N q)) (wO (dC z n F N q) K) 3 (.val (.bool b)) (wO (dC z n F N q) K1)) :
    ACall Tryd.prog 65 [.agg [.val (.int .i64 a), .val (.int .i64 u), .val (.int .i64 v)], .pt 0 0] (wO (dC z n F N q) K) 3 (.val (.bool (!b))) (wO (dC z n F N q) K1) := by
  have h := PLift.up h
  unfold wA wO dC at *
  refine ACall.enter Tryd.func65 rfl (by simp [Tryd.ntmps65]) (by simp) ?_; simp only [entry, idx, Tryd.ntmps65, List.length, List.map_cons, List.map_nil, List.append_nil, List.cons_append, List.nil_append, Nat.reduceAdd, Nat.zero_add, List.length_cons, List.length_nil]
  repeat' (first | apply AC_seq | apply AC_region_lit | ((first | refine AL_go rfl (fun K hK => ?_) | refine AL_go0 (fun K hK => ?_)); (first | refine R_callFnG (f := 62) (dst := some 9) [0, 1, 2] 3 false ?_); simp -dsimp (disch := try exact vD) only [push_cast, simprocAttr]; (repeat refine aI ?_); intro G hG; refine hG _ _ ?_; clear hG G; (first | refine ⟨_, _, h.down, ?_⟩); simp -dsimp (disch := try exact vD) only [push_cast, simprocAttr]; (repeat refine aI ?_); apply hK; clear hK K) | ((first | refine AL_go rfl (fun K hK => ?_) | refine AL_go0 (fun K hK => ?_)); (first | apply R_assign | apply Q_load | apply Q_loadAgg | apply Q_fieldAddr | apply Q_not | apply Q_neg | apply Q_box); simp -dsimp (disch := try exact vD) only [push_cast, simprocAttr]; (repeat refine aI ?_); apply hK; clear hK K) | ((first | refine AL_guard rfl rfl (fun K1 K2 h1 h2 => ?_) rfl | refine AC_cond_k (fun K1 K2 h1 h2 => ?_)); simp -dsimp (disch := try exact vD) only [push_cast, simprocAttr]; (first | (refine ⟨fun hc => ?_, fun hc => ?_⟩ <;> first | (exfalso; omega) | (exfalso; contradiction) | refine h1 ?_ | refine h2 ?_) | refine h1 ?_ | refine h2 ?_); all_goals clear h1 h2 K1 K2) | apply AL_nil | apply Thn_normal | apply Thn_ret | apply Thn_exit | apply Blk_normal | apply Blk_ret | apply Blk_here | (refine Blk_other rfl ?_) | apply AC_block | apply AC_exit | apply AC_skip | apply AC_ret)
  all_goals first
    | ((refine Ends.mk2 (by first | exact .inr rfl | exact .inl rfl) [0, 1, 2] ?_; simp -dsimp (disch := try exact vD) only [push_cast, simprocAttr, Tryd.f65]; (repeat refine aI ?_); try (first | exact vI | fail)); done)
    | trace_state
def wix (F : List Fo) (n : Nat) : Nat → Nat → KBl → Int × KBl
  | 0, _, K => (-1, K)
  | m + 1, j, K => if (wgr F n ((F.getD j default).lo + (F.getD j default).hi + 1) ((F.getD j default).lo, (F.getD j default).hi) K).2 = false then ((j : Int), (wgr F n ((F.getD j default).lo + (F.getD j default).hi + 1) ((F.getD j default).lo, (F.getD j default).hi) K).1)
      else wix F n m (j + 1) (wgr F n ((F.getD j default).lo + (F.getD j default).hi + 1) ((F.getD j default).lo, (F.getD j default).hi) K).1
theorem wix_0 : wix F n 0 j K = (-1, K) := rfl
theorem wix_f (h : wgr F n ((F.getD j default).lo + (F.getD j default).hi + 1) ((F.getD j default).lo, (F.getD j default).hi) K = (K1, false)) : wix F n (m + 1) j K = ((j : Int), K1) := by unfold wix; rw [h]; rfl
theorem wix_t (h : wgr F n ((F.getD j default).lo + (F.getD j default).hi + 1) ((F.getD j default).lo, (F.getD j default).hi) K = (K1, true)) : wix F n (m + 1) j K = wix F n m (j + 1) K1 := by
  conv => lhs; unfold wix
  rw [h]; rfl
theorem wix_ok (hg : Go.Dg.Good n F) : ∀ (m j : Nat) (K : KBl), j + m = F.length → Wok F n K → (0 ≤ (wix F n m j K).1 ↔ ¬ ∀ k, j ≤ k → k < F.length → Wi n F (F.getD k default).lo (F.getD k default).hi) := by
  intro m
  induction m with
  | zero =>
    intro j K hj _
    rw [wix_0]
    exact ⟨fun h => by dsimp only at h; omega, fun h => absurd (fun k h1 h2 => by omega) h⟩
  | succ m ih =>
    intro j K hj hK
    have ho := hg.ok j (by omega)
    have h1 := ho.lo; have h2 := ho.hi
    have hw := wgr_ok hg ((F.getD j default).lo + (F.getD j default).hi + 1) ((F.getD j default).lo, (F.getD j default).hi) K (by dsimp only; omega) (by dsimp only; omega) (by dsimp only; omega) hK
    generalize e : wgr F n ((F.getD j default).lo + (F.getD j default).hi + 1) ((F.getD j default).lo, (F.getD j default).hi) K = R at hw
    obtain ⟨K1, b⟩ := R
    dsimp only at hw
    cases b with
    | false =>
      rw [wix_f e]
      refine ⟨fun _ h => ?_, fun _ => by dsimp only; omega⟩
      have := hw.2.2 (h j (Nat.le_refl _) (by omega)); cases this
    | true =>
      rw [wix_t e, ih (j + 1) K1 (by omega) hw.1]
      refine not_congr ⟨fun h k h3 h4 => ?_, fun h k h3 h4 => h k (by omega) h4⟩
      by_cases ek : k = j
      · subst ek; exact hw.2.1 rfl
      · exact h k (by omega) h4
end Go.Proofs.YtebinjcofclfaaaDoor
