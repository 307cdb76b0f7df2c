/- Diagrams: the program's search for minimal sets, Minimal. No condition. -/
import Derived.Test.YtabafldpnkjboaaDoorDi7
import Derived.Test.YtabafldpnkjboaaDoorDgA
import Derived.Test.YtabafldpnkjboaaDoorFeS
import Derived.Test.YtabafldpnkjboaaDoorSymD
set_option linter.unusedVariables false
set_option linter.unusedSectionVars false
set_option linter.unusedSimpArgs false
set_option maxHeartbeats 4000000
set_option maxRecDepth 20000
namespace Go.Proofs.YtabafldpnkjboaaDoor
open Go Go.Sy Go.Bp Go.Dg
attribute [local irreducible] AO AL AC OpT ACall Ends DGo DRun Thn Blk Nxt
variable {A F F1 F2 G : List Fo} {n N M k i m r a j w u v s q : Nat} {z : Bool} {b b1 b2 : Bool} {p : Nat → Bool} {xs qs : List Nat} {H : Proc}
theorem fcontains_ok : ACall Tryd.prog 44 [.val (.int .u16 (U s)), .val (.int .u16 (U q))] [] 0 (.val (.bool (decide (sdif q s % 65536 = 0)))) [] := by
  refine ACall.enter Tryd.func44 rfl (by simp [Tryd.ntmps44]) (by simp) ?_; simp only [entry, idx, Tryd.ntmps44, List.length, List.map_cons, List.map_nil, List.append_nil, List.cons_append, List.nil_append, Nat.reduceAdd, Nat.zero_add, List.length_cons, List.length_nil]
  repeat' (first | apply AC_seq | apply AC_region_lit | ((first | refine AL_go rfl (fun K hK => ?_) | refine AL_go0 (fun K hK => ?_)); (first | apply R_move | apply R_assign | apply Q_eqAgg | apply Q_neqAgg | apply Q_neqSelf | apply Q_bin); simp -dsimp (disch := try exact vD) only [push_cast, simprocAttr]; (repeat refine aI ?_); apply hK; clear hK K) | ((first | refine AL_guard rfl rfl (fun K1 K2 h1 h2 => ?_) rfl | refine AC_cond_k (fun K1 K2 h1 h2 => ?_)); simp -dsimp (disch := try exact vD) only [push_cast, simprocAttr]; (first | (refine ⟨fun hc => ?_, fun hc => ?_⟩ <;> first | (exfalso; omega) | (exfalso; contradiction) | refine h1 ?_ | refine h2 ?_) | refine h1 ?_ | refine h2 ?_); all_goals clear h1 h2 K1 K2) | apply AL_nil | apply Thn_normal | apply Thn_ret | apply Thn_exit | apply Blk_normal | apply Blk_ret | apply Blk_here | (refine Blk_other rfl ?_) | apply AC_block | apply AC_exit | apply AC_skip | apply AC_ret)
  all_goals (refine Ends.mk2 (by first | exact .inr rfl | exact .inl rfl) [] ?_; simp -dsimp (disch := try exact vD) only [push_cast, simprocAttr, Tryd.f44]; (repeat refine aI ?_); try (first | exact vI | fail))
theorem acc1_ok : ACall Tryd.prog 43 [.val (.int .u16 (U q)), .ipt [.val (.int .u16 (U s))] 0] [] 0 (.val (.bool (decide (sdif q s % 65536 = 0)))) [] := by
  refine ACall.enter Tryd.func43 rfl (by simp [Tryd.ntmps43]) (by simp) ?_; simp only [entry, idx, Tryd.ntmps43, List.length, List.map_cons, List.map_nil, List.append_nil, List.cons_append, List.nil_append, Nat.reduceAdd, Nat.zero_add, List.length_cons, List.length_nil]
  repeat' (first | apply AC_seq | apply AC_region_lit | ((first | refine AL_go rfl (fun K hK => ?_) | refine AL_go0 (fun K hK => ?_)); (first | refine R_callG (f := 44) [] 0 false ?_); simp -dsimp (disch := try exact vD) only [push_cast, simprocAttr]; (repeat refine aI ?_); intro G hG; refine hG _ _ ?_; clear hG G; (first | refine ⟨_, _, fcontains_ok, ?_⟩); simp -dsimp (disch := try exact vD) only [push_cast, simprocAttr]; (repeat refine aI ?_); apply hK; clear hK K) | ((first | refine AL_go rfl (fun K hK => ?_) | refine AL_go0 (fun K hK => ?_)); (first | apply R_move | apply R_assign | apply Q_load | apply Q_loadAgg); simp -dsimp (disch := try exact vD) only [push_cast, simprocAttr]; (repeat refine aI ?_); apply hK; clear hK K) | ((first | refine AL_guard rfl rfl (fun K1 K2 h1 h2 => ?_) rfl | refine AC_cond_k (fun K1 K2 h1 h2 => ?_)); simp -dsimp (disch := try exact vD) only [push_cast, simprocAttr]; (first | (refine ⟨fun hc => ?_, fun hc => ?_⟩ <;> first | (exfalso; omega) | (exfalso; contradiction) | refine h1 ?_ | refine h2 ?_) | refine h1 ?_ | refine h2 ?_); all_goals clear h1 h2 K1 K2) | apply AL_nil | apply Thn_normal | apply Thn_ret | apply Thn_exit | apply Blk_normal | apply Blk_ret | apply Blk_here | (refine Blk_other rfl ?_) | apply AC_block | apply AC_exit | apply AC_skip | apply AC_ret)
  all_goals (refine Ends.mk2 (by first | exact .inr rfl | exact .inl rfl) [] ?_; simp -dsimp (disch := try exact vD) only [push_cast, simprocAttr, Tryd.f43]; (repeat refine aI ?_); try (first | exact vI | fail))
theorem facc_ok (hl : qs.length = n) (hn : n < 2 ^ 47) : ACall Tryd.prog 15 [.isl z (cX qs) n, .val (.int .u16 (U s))] [] 0 (.val (.bool (hasA qs s))) [] := by
  have h := PLift.up (contX_ok (z := z) (k := qs) (F := 43) (c1 := [.val (.int .u16 (U s))]) (fun m => decide (sdif m s % 65536 = 0)) hl hn (fun m => acc1_ok))
  have e : (qs.any fun m => decide (sdif m s % 65536 = 0)) = hasA qs s := by unfold hasA; rfl
  rw [e] at h
  refine ACall.enter Tryd.func15 rfl (by simp [Tryd.ntmps15]) (by simp) ?_; simp only [entry, idx, Tryd.ntmps15, List.length, List.map_cons, List.map_nil, List.append_nil, List.cons_append, List.nil_append, Nat.reduceAdd, Nat.zero_add, List.length_cons, List.length_nil]
  repeat' (first | ((first | refine AC_frzS (r := 1) 0 ?_ | refine AC_frzR (r := 1) 0 ?_); simp -dsimp (disch := try exact vD) only [push_cast, simprocAttr]; (repeat refine aI ?_); intro K hK; refine hK _ _ ?_; clear hK K) | apply AC_seq | apply AC_region_lit | ((first | refine AL_go rfl (fun K hK => ?_) | refine AL_go0 (fun K hK => ?_)); (first | refine R_callG (f := 42) [] 0 false ?_); simp -dsimp (disch := try exact vD) only [push_cast, simprocAttr]; (repeat refine aI ?_); intro G hG; refine hG _ _ ?_; clear hG G; (first | refine ⟨_, _, h.down, ?_⟩); simp -dsimp (disch := try exact vD) only [push_cast, simprocAttr]; (repeat refine aI ?_); apply hK; clear hK K) | ((first | refine AL_go rfl (fun K hK => ?_) | refine AL_go0 (fun K hK => ?_)); (first | apply R_move | apply R_assign | apply Q_box | apply Q_makeFunc); simp -dsimp (disch := try exact vD) only [push_cast, simprocAttr]; (repeat refine aI ?_); apply hK; clear hK K) | ((first | refine AL_guard rfl rfl (fun K1 K2 h1 h2 => ?_) rfl | refine AC_cond_k (fun K1 K2 h1 h2 => ?_)); simp -dsimp (disch := try exact vD) only [push_cast, simprocAttr]; (first | (refine ⟨fun hc => ?_, fun hc => ?_⟩ <;> first | (exfalso; omega) | (exfalso; contradiction) | refine h1 ?_ | refine h2 ?_) | refine h1 ?_ | refine h2 ?_); all_goals clear h1 h2 K1 K2) | apply AL_nil | apply Thn_normal | apply Thn_ret | apply Thn_exit | apply Blk_normal | apply Blk_ret | apply Blk_here | (refine Blk_other rfl ?_) | apply AC_block | apply AC_exit | apply AC_skip | apply AC_ret)
  all_goals (refine Ends.mk2 (by first | exact .inr rfl | exact .inl rfl) [] ?_; simp -dsimp (disch := try exact vD) only [push_cast, simprocAttr, Tryd.f15]; (repeat refine aI ?_); try (first | exact vI | fail))
theorem inOrd_full : ∀ n, n ≤ 6 → ((List.range (2 ^ n)).all fun x => (subs (fullS n)).contains x) = true ∧ (∀ x ∈ subs (fullS n), x < 2 ^ n) ∧ (subs (fullS n)).Pairwise fun a b => ¬ sdif b a % 65536 = 0 := by decide +kernel
theorem inOrd (hn : n ≤ 6) : InOrd n (subs (fullS n)) := by
  obtain ⟨h1, h2, h3⟩ := inOrd_full n hn
  refine ⟨fun x hx => ?_, h2, h3⟩
  have := List.all_eq_true.1 h1 x (List.mem_range.2 hx)
  simpa using this
theorem subs_full_lt (hn : n ≤ 6) (h : q ∈ subs (fullS n)) : q < 2 ^ n := (inOrd hn).lt q h
def mBl (p : Nat → Bool) (xs : List Nat) (j : Nat) : Nat := (mB p xs j).length
theorem mB_0 : mB p xs 0 = [] := rfl
theorem mBl_0 : mBl p xs 0 = 0 := rfl
theorem mB_t (h1 : hasA (mB p xs j) (xs.getD j 0) = false) (h2 : p (xs.getD j 0) = true) : mB p xs (j + 1) = mB p xs j ++ [xs.getD j 0] := by
  show (if (!hasA (mB p xs j) (xs.getD j 0) && p (xs.getD j 0)) = true then _ else _) = _
  rw [h1, h2]; rfl
theorem mB_f (h : hasA (mB p xs j) (xs.getD j 0) = true ∨ p (xs.getD j 0) = false) : mB p xs (j + 1) = mB p xs j := by
  show (if (!hasA (mB p xs j) (xs.getD j 0) && p (xs.getD j 0)) = true then _ else _) = _
  rcases h with h | h
  · rw [h]; rfl
  · rw [h, Bool.and_false]; rfl
theorem mBl_t (h : mB p xs (j + 1) = mB p xs j ++ [q]) : mBl p xs (j + 1) = mBl p xs j + 1 := by unfold mBl; rw [h]; simp
theorem mBl_f (h : mB p xs (j + 1) = mB p xs j) : mBl p xs (j + 1) = mBl p xs j := by unfold mBl; rw [h]
theorem mBl_le : mBl p xs j ≤ j := by
  induction j with
  | zero => exact Nat.le_refl _
  | succ j ih =>
    cases h1 : hasA (mB p xs j) (xs.getD j 0) with
    | true => rw [mBl_f (mB_f (.inl h1))]; omega
    | false =>
      cases h2 : p (xs.getD j 0) with
      | false => rw [mBl_f (mB_f (.inr h2))]; omega
      | true => rw [mBl_t (mB_t h1 h2)]; omega
theorem mB_z (h : mBl p xs j = 0) : mB p xs j = [] := List.length_eq_zero_iff.1 h
theorem mB_len : (mB p xs j).length = mBl p xs j := rfl
theorem mB_app : ∃ e, mB p xs (j + m) = mB p xs j ++ e := by
  induction m with
  | zero => exact ⟨[], by simp⟩
  | succ m ih =>
    obtain ⟨e, ih⟩ := ih
    cases h1 : hasA (mB p xs (j + m)) (xs.getD (j + m) 0) with
    | true => exact ⟨e, by rw [← Nat.add_assoc, mB_f (.inl h1), ih]⟩
    | false =>
      cases h2 : p (xs.getD (j + m) 0) with
      | false => exact ⟨e, by rw [← Nat.add_assoc, mB_f (.inr h2), ih]⟩
      | true => exact ⟨e ++ [xs.getD (j + m) 0], by rw [← Nat.add_assoc, mB_t h1 h2, ih, List.append_assoc]⟩
theorem mB_yX (hj : j < xs.length) (h : mB p xs (j + 1) = mB p xs j ++ [q]) : yX (mB p xs xs.length) (mBl p xs j) = some (.int .u16 (U q)) := by
  obtain ⟨e, he⟩ := mB_app (p := p) (xs := xs) (j := j + 1) (m := xs.length - (j + 1))
  rw [show j + 1 + (xs.length - (j + 1)) = xs.length by omega, h] at he
  rw [he]
  unfold yX mBl
  rw [if_pos (by simp)]
  simp [List.getD_eq_getElem?_getD]
theorem tk_mB : (cX (mB p xs j)).take (mBl p xs j) = cX (mB p xs j) := List.take_of_length_le (by simp [cX, mBl])
theorem fd_all' : fd (fun _ => true) j n = (j + n, true) := by
  induction n generalizing j with
  | zero => rfl
  | succ n ih => rw [fd_t rfl, ih, show j + 1 + n = j + (n + 1) by omega]
theorem hasA_nil : hasA [] q = false := by unfold hasA; rfl
attribute [local irreducible] memL mem comb pick fd sbL subs mB mBl hasA
def srO (p : Nat → Bool) (xs : List Nat) (H : Proc) (j : Nat) : List (Nat × Option AObj) := [(0, some (.tr H (mBl p xs j))), (1, some (.cells [.yl 0] 66)), (2, some (.cells [nilOr (mBl p xs j) 3 1] 25))] ++ nilOb (mBl p xs j) 3 (cX (mB p xs j)) 49
def srR (n : Nat) (A : FuncId) (c1 : List AV) (p : Nat → Bool) (xs : List Nat) (H : Proc) (ca cb : Code) : RLoop :=
  ⟨34, 3, [(1,.ipt [.val (.int .i64 n)] 0), (2,.ipt [.fn A [.ipt c1 0]] 0), (3,.pt 1 0), (4,.pt 2 0)], srO p xs H, fun _ => [], 4, 0, fun _ => true, yX xs, .ret, 16, ca, cb⟩
theorem search1_ok {A : FuncId} [TPlain Tryd.prog A] {c1 : List AV} (hcb : ∀ x ∈ c1, bnd 0 x) (hP : H.P = Tryd.prog) (hn : n ≤ 6) (hgo : H.go = fun _ => true) (hx' : subs (fullS n) = xs) (hxs : H.xs = yX (mB p xs xs.length))
    (hacc : ∀ q, q < 2 ^ n → ACall Tryd.prog A [.val (.int .u16 (U q)), .ipt c1 0] [] 0 (.val (.bool (p q))) []) :
    ACall Tryd.prog 63 [.yl 0, .ipt [.val (.int .i64 n)] 0, .ipt [.fn A [.ipt c1 0]] 0] [.tr H 0] 1 (.tup []) [.tr H (mBl p xs xs.length)] := by
  obtain ⟨s, hs⟩ : ∃ s, 2 ^ n - 1 = s := ⟨_, rfl⟩
  have hss : ∀ i, bit s i = true → i < n := fun i hi => by
    rw [← hs] at hi
    have : bit (fullS n) i = true := hi
    rw [bit_full (by omega)] at this; simpa using this
  have hm : memL s 16 < 7 := memL_6 hn hss
  have hx2 : subs s = xs := by rw [← hs]; exact hx'
  have hit : ∀ H : Proc, H.P = Tryd.prog → H.xs = yX xs → H.go = (fun _ => true) → ∃ r, ACall Tryd.prog 58 [.yl 0, bxS s] [.tr H 0] 1 r [.tr H xs.length] := fun H h1 h2 h3 => by
    have h := subs1_ok (H := H) (s := s) h1 hm (by rw [h3]) (fun i hi => by rw [h2, ← hx2]; unfold yX; rw [if_pos hi])
    rw [h3, fd_all', hx2, Nat.zero_add] at h
    exact ⟨_, h⟩
  have hl4 : xs.length ≤ 448 := by rw [← hx2]; exact subs_448 hm
  have hb := dmy_def; have hpq := dmy_def; have he := dmy_def; have hel := dmy_def; have hy := dmy_def
  refine ACall.enter Tryd.func63 rfl (by simp [Tryd.ntmps63]) (by simp) ?_; simp only [entry, idx, Tryd.ntmps63, List.length, List.map_cons, List.map_nil, List.append_nil, List.cons_append, List.nil_append, Nat.reduceAdd, Nat.zero_add, List.length_cons, List.length_nil]
  repeat' (first | apply AC_seq | apply AC_region_lit | ((first | refine AL_go rfl (fun K hK => ?_) | refine AL_go0 (fun K hK => ?_)); (first | refine R_callG (f := 28) [] 0 false ?_); simp -dsimp (disch := try exact vD) only [push_cast, simprocAttr, hs, mB_0, mBl_0]; (repeat refine aI ?_); intro G hG; refine hG _ _ ?_; clear hG G; (first | refine ⟨_, _, subs_ok (s := s), ?_⟩); simp -dsimp (disch := try exact vD) only [push_cast, simprocAttr, hs, mB_0, mBl_0]; (repeat refine aI ?_); apply hK; clear hK K) | ((first | refine AL_go rfl (fun K hK => ?_) | refine AL_go0 (fun K hK => ?_)); (first | apply R_move | apply R_assign | apply Q_load | apply Q_loadAgg | apply Q_pick | apply Q_not | apply Q_neg | apply Q_box | apply R_alloc | apply Q_store | apply Q_buildSlice | apply Q_bin | apply Q_appendNil); simp -dsimp (disch := try exact vD) only [push_cast, simprocAttr, hs, mB_0, mBl_0]; (repeat refine aI ?_); apply hK; clear hK K) | ((first | refine AL_go rfl (fun K hK => ?_) | refine AL_go0 (fun K hK => ?_)); (first | apply Q_append); simp -dsimp (disch := try exact vD) only [push_cast, simprocAttr, hs, mB_0, mBl_0]; (repeat refine aI ?_); apply hK; clear hK K) | ((first | refine AL_go rfl (fun K hK => ?_) | refine AL_go0 (fun K hK => ?_)); (first | apply Q_append00); simp -dsimp (disch := try exact vD) only [push_cast, simprocAttr, hs, mB_0, mBl_0]; (repeat refine aI ?_); apply hK; clear hK K) | ((first | refine AL_go rfl (fun K hK => ?_) | refine AL_go0 (fun K hK => ?_)); (first | apply Q_appendIn); simp -dsimp (disch := try exact vD) only [push_cast, simprocAttr, hs, mB_0, mBl_0]; (repeat refine aI ?_); apply hK; clear hK K) | ((first | refine AL_guard rfl rfl (fun K1 K2 h1 h2 => ?_) rfl | refine AC_cond_k (fun K1 K2 h1 h2 => ?_)); simp -dsimp (disch := try exact vD) only [push_cast, simprocAttr, hs, mB_0, mBl_0]; (first | (refine ⟨fun hc => ?_, fun hc => ?_⟩ <;> first | (exfalso; omega) | (exfalso; contradiction) | refine h1 ?_ | refine h2 ?_) | refine h1 ?_ | refine h2 ?_); all_goals clear h1 h2 K1 K2) | apply AL_nil | apply Thn_normal | apply Thn_ret | apply Thn_exit | apply Blk_normal | apply Blk_ret | apply Blk_here | (refine Blk_other rfl ?_) | apply AC_block | apply AC_exit | apply AC_skip | apply AC_ret)
  refine AC_range (srR n A c1 p xs H _ _) [0, 1, 2, 9] xs.length rfl (by simp [bnd]) (by kernel_rfl) hit (by unfold srR srO; dsimp only; refine Sub.mk2 ?_; (simp -dsimp (disch := try exact vD) only [push_cast, simprocAttr, hs, mB_0, mBl_0])) rfl rfl (by show 1 ≤ 3; decide) (fun j hj => by
    have e : j = 0 ∨ j = 1 ∨ j = 2 := (by have : j < 3 := hj; omega)
    rcases e with e | e | e <;> subst e <;> rfl) (by simp [srR, bnd]) (by show 16 < 34; decide) (.inl rfl) (fun j x hj hx => ?_) (fun _ => ?_) (fun h => nomatch h)
  · obtain ⟨hjl, rfl⟩ := yX_inv hx
    have hqs := fun i (hi : bit (xs.getD j 0) i = true) => hss i (subs_sub (by rw [hx2]; exact getD_mem hjl) hi)
    have hm1 := fun h => mB_f (p := p) (xs := xs) (j := j) h
    have hm2 := fun h1 h2 => mB_t (p := p) (xs := xs) (j := j) h1 h2
    have hmy := fun h => mB_yX (p := p) (xs := xs) (q := xs.getD j 0) hjl h
    have hll := mBl_le (p := p) (xs := xs) (j := j)
    have hq16 : xs.getD j 0 < 2 ^ n := subs_full_lt hn (by rw [hx']; exact getD_mem hjl)
    obtain ⟨q, hq⟩ : ∃ q, xs.getD j 0 = q := ⟨_, rfl⟩
    rw [hq] at hm1 hm2 hmy hq16 ⊢
    have hac := PLift.up (hacc q hq16)
    have hh0 : mBl p xs j = 0 → hasA (mB p xs j) q = false := fun h => by rw [mB_z h]; unfold hasA; rfl
    clear hx hacc hqs
    dsimp only [srR, srO]
    refine (Bool.eq_false_or_eq_true (hasA (mB p xs j) q)).elim (fun hb => ?_) (fun hb => (Bool.eq_false_or_eq_true (p q)).elim (fun hpq => ?_) (fun hpq => ?_))
    all_goals first
      | (have he := hm2 hb hpq; have hel := mBl_t he; have hy := hmy he; rw [← hxs] at hy)
      | (have he := hm1 (by first | exact .inl hb | exact .inr hpq); have hel := mBl_f he)
    all_goals rcases Nat.eq_zero_or_pos (mBl p xs j) with h0 | h0
    all_goals first
      | (rw [hh0 h0] at hb; cases hb; done)
      | skip
    all_goals repeat' (first | (refine Mid.mk rfl ?_; dsimp only) | (((first | refine AL_go rfl (fun K hK => ?_) | refine AL_go0 (fun K hK => ?_)); apply Q_yield; (simp -dsimp (disch := try exact vD) only [push_cast, simprocAttr, hP, hy, hgo]); (repeat refine aI ?_); apply hK; clear hK K)) | (refine RQ_next [0, 1, 2, 3] ⟨rfl, rfl⟩ ?_; (try dsimp only); unfold srO; (try simp only [List.cons_append, List.nil_append]); refine Sub.mk2 ?_; (simp -dsimp (disch := try exact vD) only [push_cast, simprocAttr, hasA_nil, hb, hpq, he, hel, hy, hP, hgo, c_Nat, cX_oneN, cX_snocN, mB_z, mB_len, tk_mB, List.nil_append]); (repeat refine aI ?_); first | done | exact vI) | (refine RQ_next [0, 1, 2, 9] ⟨rfl, rfl⟩ ?_; (try dsimp only); unfold srO; (try simp only [List.cons_append, List.nil_append]); refine Sub.mk2 ?_; (simp -dsimp (disch := try exact vD) only [push_cast, simprocAttr, hasA_nil, hb, hpq, he, hel, hy, hP, hgo, c_Nat, cX_oneN, cX_snocN, mB_z, mB_len, tk_mB, List.nil_append]); (repeat refine aI ?_); first | done | exact vI) | (refine RQ_next [0, 1, 2, 5] ⟨rfl, rfl⟩ ?_; (try dsimp only); unfold srO; (try simp only [List.cons_append, List.nil_append]); refine Sub.mk2 ?_; (simp -dsimp (disch := try exact vD) only [push_cast, simprocAttr, hasA_nil, hb, hpq, he, hel, hy, hP, hgo, c_Nat, cX_oneN, cX_snocN, mB_z, mB_len, tk_mB, List.nil_append]); (repeat refine aI ?_); first | done | exact vI) | (refine RQ_next [0, 1, 2, 4] ⟨rfl, rfl⟩ ?_; (try dsimp only); unfold srO; (try simp only [List.cons_append, List.nil_append]); refine Sub.mk2 ?_; (simp -dsimp (disch := try exact vD) only [push_cast, simprocAttr, hasA_nil, hb, hpq, he, hel, hy, hP, hgo, c_Nat, cX_oneN, cX_snocN, mB_z, mB_len, tk_mB, List.nil_append]); (repeat refine aI ?_); first | done | exact vI) | apply AC_seq | apply AC_region_lit | ((first | refine AL_go rfl (fun K hK => ?_) | refine AL_go0 (fun K hK => ?_)); (first | refine R_callFnG (f := A) [] 0 false ?_); simp -dsimp (disch := try exact vD) only [push_cast, simprocAttr, hasA_nil, hb, hpq, he, hel, hy, hP, hgo, c_Nat, cX_oneN, cX_snocN, mB_z, mB_len, tk_mB, List.nil_append]; (repeat refine aI ?_); intro G hG; refine hG _ _ ?_; clear hG G; (first | refine ⟨_, _, hac.down, ?_⟩); simp -dsimp (disch := try exact vD) only [push_cast, simprocAttr, hasA_nil, hb, hpq, he, hel, hy, hP, hgo, c_Nat, cX_oneN, cX_snocN, mB_z, mB_len, tk_mB, List.nil_append]; (repeat refine aI ?_); apply hK; clear hK K) | ((first | refine AL_go rfl (fun K hK => ?_) | refine AL_go0 (fun K hK => ?_)); (first | (refine R_callG (f := 15) [] 0 true ?_; simp -dsimp (disch := try exact vD) only [push_cast, simprocAttr, hasA_nil, hb, hpq, he, hel, hy, hP, hgo, c_Nat, cX_oneN, cX_snocN, mB_z, mB_len, tk_mB, List.nil_append]; (repeat refine aI ?_); intro G hG; refine hG _ _ ?_; clear hG G; refine ⟨_, _, facc_ok (qs := mB p xs j) mB_len (by omega), ?_⟩; simp -dsimp (disch := try exact vD) only [push_cast, simprocAttr, hasA_nil, hb, hpq, he, hel, hy, hP, hgo, c_Nat, cX_oneN, cX_snocN, mB_z, mB_len, tk_mB, List.nil_append]; (repeat refine aI ?_); apply hK; clear hK K) | (refine R_callG (f := 15) [] 0 true ?_; simp -dsimp (disch := try exact vD) only [push_cast, simprocAttr, hasA_nil, hb, hpq, he, hel, hy, hP, hgo, c_Nat, cX_oneN, cX_snocN, mB_z, mB_len, tk_mB, List.nil_append]; (repeat refine aI ?_); intro G hG; refine hG _ _ ?_; clear hG G; refine ⟨_, _, facc_ok (qs := []) rfl (by omega), ?_⟩; simp -dsimp (disch := try exact vD) only [push_cast, simprocAttr, hasA_nil, hb, hpq, he, hel, hy, hP, hgo, c_Nat, cX_oneN, cX_snocN, mB_z, mB_len, tk_mB, List.nil_append]; (repeat refine aI ?_); apply hK; clear hK K))) | ((first | refine AL_go rfl (fun K hK => ?_) | refine AL_go0 (fun K hK => ?_)); (first | apply R_move | apply R_assign | apply Q_load | apply Q_loadAgg | apply Q_pick | apply Q_not | apply Q_neg | apply Q_box | apply R_alloc | apply Q_store | apply Q_buildSlice | apply Q_bin | apply Q_appendNil); simp -dsimp (disch := try exact vD) only [push_cast, simprocAttr, hasA_nil, hb, hpq, he, hel, hy, hP, hgo, c_Nat, cX_oneN, cX_snocN, mB_z, mB_len, tk_mB, List.nil_append]; (repeat refine aI ?_); apply hK; clear hK K) | ((first | refine AL_go rfl (fun K hK => ?_) | refine AL_go0 (fun K hK => ?_)); (first | apply Q_append); simp -dsimp (disch := try exact vD) only [push_cast, simprocAttr, hasA_nil, hb, hpq, he, hel, hy, hP, hgo, c_Nat, cX_oneN, cX_snocN, mB_z, mB_len, tk_mB, List.nil_append]; (repeat refine aI ?_); apply hK; clear hK K) | ((first | refine AL_go rfl (fun K hK => ?_) | refine AL_go0 (fun K hK => ?_)); (first | apply Q_append00); simp -dsimp (disch := try exact vD) only [push_cast, simprocAttr, hasA_nil, hb, hpq, he, hel, hy, hP, hgo, c_Nat, cX_oneN, cX_snocN, mB_z, mB_len, tk_mB, List.nil_append]; (repeat refine aI ?_); apply hK; clear hK K) | ((first | refine AL_go rfl (fun K hK => ?_) | refine AL_go0 (fun K hK => ?_)); (first | apply Q_appendIn); simp -dsimp (disch := try exact vD) only [push_cast, simprocAttr, hasA_nil, hb, hpq, he, hel, hy, hP, hgo, c_Nat, cX_oneN, cX_snocN, mB_z, mB_len, tk_mB, List.nil_append]; (repeat refine aI ?_); apply hK; clear hK K) | ((first | refine AL_guard rfl rfl (fun K1 K2 h1 h2 => ?_) rfl | refine AC_cond_k (fun K1 K2 h1 h2 => ?_)); simp -dsimp (disch := try exact vD) only [push_cast, simprocAttr, hasA_nil, hb, hpq, he, hel, hy, hP, hgo, c_Nat, cX_oneN, cX_snocN, mB_z, mB_len, tk_mB, List.nil_append]; (first | (refine ⟨fun hc => ?_, fun hc => ?_⟩ <;> first | (exfalso; omega) | (exfalso; contradiction) | refine h1 ?_ | refine h2 ?_) | refine h1 ?_ | refine h2 ?_); all_goals clear h1 h2 K1 K2) | apply AL_nil | apply Thn_normal | apply Thn_ret | apply Thn_exit | apply Blk_normal | apply Blk_ret | apply Blk_here | (refine Blk_other rfl ?_) | apply AC_block | apply AC_exit | apply AC_skip | apply AC_ret)
  · dsimp only [srR, srO]
    all_goals repeat' (first | apply AC_seq | apply AC_region_lit | ((first | refine AL_go rfl (fun K hK => ?_) | refine AL_go0 (fun K hK => ?_)); (first | apply R_move | apply R_assign | apply Q_load | apply Q_loadAgg | apply Q_pick | apply Q_not | apply Q_neg | apply Q_box | apply R_alloc | apply Q_store | apply Q_buildSlice | apply Q_bin | apply Q_appendNil); simp -dsimp (disch := try exact vD) only [push_cast, simprocAttr]; (repeat refine aI ?_); apply hK; clear hK K) | ((first | refine AL_go rfl (fun K hK => ?_) | refine AL_go0 (fun K hK => ?_)); (first | apply Q_append); simp -dsimp (disch := try exact vD) only [push_cast, simprocAttr]; (repeat refine aI ?_); apply hK; clear hK K) | ((first | refine AL_go rfl (fun K hK => ?_) | refine AL_go0 (fun K hK => ?_)); (first | apply Q_append00); simp -dsimp (disch := try exact vD) only [push_cast, simprocAttr]; (repeat refine aI ?_); apply hK; clear hK K) | ((first | refine AL_go rfl (fun K hK => ?_) | refine AL_go0 (fun K hK => ?_)); (first | apply Q_appendIn); simp -dsimp (disch := try exact vD) only [push_cast, simprocAttr]; (repeat refine aI ?_); apply hK; clear hK K) | ((first | refine AL_guard rfl rfl (fun K1 K2 h1 h2 => ?_) rfl | refine AC_cond_k (fun K1 K2 h1 h2 => ?_)); simp -dsimp (disch := try exact vD) only [push_cast, simprocAttr]; (first | (refine ⟨fun hc => ?_, fun hc => ?_⟩ <;> first | (exfalso; omega) | (exfalso; contradiction) | refine h1 ?_ | refine h2 ?_) | refine h1 ?_ | refine h2 ?_); all_goals clear h1 h2 K1 K2) | apply AL_nil | apply Thn_normal | apply Thn_ret | apply Thn_exit | apply Blk_normal | apply Blk_ret | apply Blk_here | (refine Blk_other rfl ?_) | apply AC_block | apply AC_exit | apply AC_skip | apply AC_ret)
    all_goals first
      | ((refine Ends.mk2 (by first | exact .inr rfl | exact .inl rfl) [0] ?_; simp -dsimp (disch := try exact vD) only [push_cast, simprocAttr, Tryd.f63]; (repeat refine aI ?_); try (first | exact vI | fail)); done)
      | trace_state
end Go.Proofs.YtabafldpnkjboaaDoor
