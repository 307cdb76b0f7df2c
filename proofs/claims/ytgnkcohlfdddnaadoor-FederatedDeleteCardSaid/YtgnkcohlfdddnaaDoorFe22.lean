/- What, once deleted, leaves two quorums apart: the program's Splitting. No condition. -/
import Derived.Test.YtgnkcohlfdddnaaDoorFeD
set_option linter.unusedVariables false
set_option linter.unusedSectionVars false
set_option linter.unusedSimpArgs false
set_option maxHeartbeats 2000000
set_option maxRecDepth 20000
namespace Go.Proofs.YtgnkcohlfdddnaaDoor
open Go Go.Sy Go.Bp
attribute [local irreducible] AO AL AC OpT ACall Ends DGo DRun Thn Blk Nxt
variable {z zl : Bool} {n i j m q s d L N : Nat} {l : List Ex} {xs : List Nat} {F : Nat → Bool}
def goF (F : Nat → Bool) : Nat → Bool
  | 0 => true
  | j + 1 => goF F j && !F j
theorem goF_t (h : ∀ i, i < j → F i = false) : goF F j = true := by
  induction j with
  | zero => rfl
  | succ j ih => show (goF F j && !F j) = true; rw [ih (fun i hi => h i (by omega)), h j (by omega)]; rfl
theorem goF_no (h : goF F j = true) : ∀ i, i < j → F i = false := by
  induction j with
  | zero => intro i hi; omega
  | succ j ih =>
    intro i hi
    have h : (goF F j && !F j) = true := h
    rw [Bool.and_eq_true] at h
    by_cases e : i = j
    · subst e; simpa using h.2
    · exact ih h.1 i (by omega)
theorem fdF {k : Nat} (hg : goF F k = true) : fd (goF F) k n = match jxG F k n with | some j => (j + 1, false) | none => (k + n, true) := by
  induction n generalizing k with
  | zero => rfl
  | succ n ih =>
    unfold jxG
    cases hF : F k with
    | true =>
      rw [fd_f (by show (goF F k && !F k) = false; rw [hg, hF]; rfl)]; simp
    | false =>
      have hg2 : goF F (k + 1) = true := by show (goF F k && !F k) = true; rw [hg, hF]; rfl
      rw [fd_t hg2, ih hg2]
      simp only [Bool.false_eq_true, if_false]
      cases jxG F (k + 1) n with
      | none => simp; omega
      | some j => rfl
def foundF (l : List Ex) (xs : List Nat) (j : Nat) : Bool := (dsj (minQ l (xs.getD j 0))).2.2
def splgR (l : List Ex) : Nat × Int := if ¬ (delR mkP l 0).2 = 0 then (0, (delR mkP l 0).2) else
  match jx (foundF l (subs (fullS l.length))) (subs (fullS l.length)).length with
  | some j => ((subs (fullS l.length)).getD j 0, 0)
  | none => (0, 13)
def splgV (r : Nat × Int) : AV := .tup [.val (.int .u16 (U r.1)), .val (.int .i64 r.2)]
theorem splgR_1 (h : ¬ (delR mkP l 0).2 = 0) : splgR l = (0, (delR mkP l 0).2) := if_pos h
theorem splgR_2 (hL : l.length = L) (hx : subs (fullS L) = xs) (h : (delR mkP l 0).2 = 0) (h2 : jx (foundF l xs) xs.length = some j) : splgR l = (xs.getD j 0, 0) := by
  unfold splgR; rw [if_neg (by simp [h]), hL, hx, h2]
theorem splgR_3 (hL : l.length = L) (hx : subs (fullS L) = xs) (h : (delR mkP l 0).2 = 0) (h2 : jx (foundF l xs) xs.length = none) : splgR l = (0, 13) := by
  unfold splgR; rw [if_neg (by simp [h]), hL, hx, h2]
attribute [local irreducible] subs minQ dsj memL mem fd delR foundF goF
def sgO (x : Int) (_ : Nat) : List (Nat × Option AObj) := [(0, some (.cells [.val (.int .u16 x)] 33)), (1, some (.cells [.val (.int .i64 0)] 27))]
def sgS (xs : List Nat) (j : Nat) : List (Nat × Option AObj) := [(0, some (.cells [.val (.int .u16 (U (xs.getD (j - 1) 0)))] 33)), (1, some (.cells [.val (.int .i64 0)] 27))]
def sgR (T : List BL) (L : Nat) (F : Nat → Bool) (xs : List Nat) (ca cb : Code) : RLoop :=
  ⟨36, 2, [(2,.pt 0 0), (3,.pt 1 0), (6,.ipt [.isl false (cX T) L] 0)], sgO 0, sgS xs, 2, 2, goF F, yX xs, .ret, 25, ca, cb⟩
theorem splitting_ok (hl : LOk l) (hL : l.length = L) (h6 : L ≤ 6) (hfl : ∀ i, i < L → Flag (l.getD i default)) : ACall Tryd.prog 22 [.isl zl (cR l) L] [] 0 (splgV (splgR l)) [] := by
  have hpos := hl.pos
  have h1 := PLift.up (del_ok (zl := zl) (d := 0) hL (by omega) (by omega) (fun i hi => ⟨hl.sh hL i hi, hfl i hi⟩))
  rw [U_0n] at h1
  unfold delV at h1
  have h2 := PLift.up (tab_ok (zl := zl) hl hL rfl)
  have hm : memL (fullS L) 16 < 7 := memL_6 h6 (fun i hi => by rw [bit_full (by omega)] at hi; exact of_decide_eq_true hi)
  obtain ⟨xs, hxs⟩ : ∃ xs, subs (fullS L) = xs := ⟨_, rfl⟩
  have hx2 := fun j (h : j < xs.length) => fulls_in h6 (by rw [hxs]; exact getD_mem (d := 0) h)
  have h3 := fun j (h : j < xs.length) => PLift.up (minT_ok (l := l) (d := xs.getD j 0) hL h6 (hx2 j h))
  have h4 := fun j => PLift.up (dsj_ok (z := (minQ l (xs.getD j 0)).length == 0) (qs := minQ l (xs.getD j 0)) rfl (by have := minQ_len (l := l) (d := xs.getD j 0) (by omega); omega) (fun q hq => minQ_ne hq))
  obtain ⟨F, hF⟩ : ∃ F, foundF l xs = F := ⟨_, rfl⟩
  have hF2 : ∀ j, (dsj (minQ l (xs.getD j 0))).2.2 = F j := fun j => by rw [← hF]; unfold foundF; rfl
  have hit : ∀ H : Proc, H.P = Tryd.prog → H.xs = yX xs → H.go = goF F → ∃ r, ACall Tryd.prog 71 [.yl 0, bxS (fullS L)] [.tr H 0] 1 r [.tr H (fd (goF F) 0 xs.length).1] := fun H e1 e2 e3 => by
    have h := subs1_ok (H := H) (s := fullS L) e1 hm (by rw [e3]; exact goF_t (fun i hi => absurd hi (by omega))) (fun i hi => by rw [e2, ← hxs]; unfold yX; rw [if_pos hi])
    rw [e3, hxs] at h
    exact ⟨_, h⟩
  have hfd := fdF (F := F) (n := xs.length) (k := 0) (goF_t (fun i hi => absurd hi (by omega)))
  have hj0 := dmy_def; have hj1 := dmy_def; have hj2 := dmy_def; have hj3 := dmy_def; have hff := dmy_def
  generalize hd1 : delR mkP l 0 = dr at h1
  refine ACall.enter Tryd.func22 rfl (by simp [Tryd.ntmps22]) (by simp) ?_; simp only [entry, idx, Tryd.ntmps22, List.length, List.map_cons, List.map_nil, List.append_nil, List.cons_append, List.nil_append, Nat.reduceAdd, Nat.zero_add, List.length_cons, List.length_nil]
  repeat' (first | ((first | refine AC_frzS (r := 5) 2 ?_ | refine AC_frzR (r := 5) 2 ?_); simp -dsimp (disch := first | exact vD | fail) only [push_cast, simprocAttr, hd1]; (repeat (refine aI ?_)); intro K hK; refine hK _ _ ?_; clear hK K) | (refine AC_seq ?_) | (refine AC_region_lit ?_) | ((first | refine AL_go rfl (fun K hK => ?_) | refine AL_go0 (fun K hK => ?_)); (first | refine R_callG (f := 25) [] 0 false ?_ | refine R_callG (f := 39) [] 0 false ?_ | refine R_callG (f := 42) [] 0 false ?_ | refine R_callG (f := 51) [] 0 false ?_); simp -dsimp (disch := first | exact vD | fail) only [push_cast, simprocAttr, hd1]; (repeat (refine aI ?_)); intro G hG; refine hG _ _ ?_; clear hG G; (first | refine ⟨_, _, h1.down, ?_⟩ | refine ⟨_, _, h2.down, ?_⟩ | refine ⟨_, _, full_ok (n := L), ?_⟩ | refine ⟨_, _, subs_ok (s := fullS L), ?_⟩); simp -dsimp (disch := first | exact vD | fail) only [push_cast, simprocAttr, hd1]; (repeat (refine aI ?_)); (first | refine hK _ _ _ ?_ | refine hK _ _ ?_); clear hK K) | ((first | refine AL_go rfl (fun K hK => ?_) | refine AL_go0 (fun K hK => ?_)); (first | refine R_move _ ?_ | refine R_assign _ ?_ | refine Q_load _ _ ?_ | refine Q_loadAgg _ _ ?_ | refine Q_len _ _ ?_ | refine Q_lenStr _ _ ?_ | refine Q_extract _ _ ?_ | refine R_alloc _ ?_ | refine Q_store _ _ _ ?_ | refine Q_eqAgg _ _ _ _ ?_ | refine Q_neqAgg _ _ _ _ ?_ | refine Q_neqSelf _ _ _ _ ?_ | refine Q_bin _ _ _ _ _ ?_); simp -dsimp (disch := first | exact vD | fail) only [push_cast, simprocAttr, hd1]; (repeat (refine aI ?_)); (first | refine hK _ _ _ ?_ | refine hK _ _ ?_); clear hK K) | ((first | refine AL_guard rfl rfl (fun K1 K2 h1 h2 => ?_) rfl | refine AC_cond_k (fun K1 K2 h1 h2 => ?_)); simp -dsimp (disch := first | exact vD | fail) only [push_cast, simprocAttr, hd1]; (first | (refine ⟨fun hc => ?_, fun hc => ?_⟩ <;> first | (exfalso; omega) | (exfalso; contradiction) | refine h1 ?_ | refine h2 ?_) | refine h1 ?_ | refine h2 ?_); all_goals clear h1 h2 K1 K2) | (refine AL_nil ?_) | (refine Thn_normal ?_) | (refine Thn_ret ?_) | (refine Thn_exit ?_) | (refine Blk_normal ?_) | (refine Blk_ret ?_) | (refine Blk_here ?_) | (refine Blk_other rfl ?_) | (refine AC_block ?_) | (refine AC_exit ?_) | (refine AC_skip ?_) | (refine AC_ret ?_))
  · rw [splgR_1 (by rw [hd1]; assumption), hd1]; unfold splgV; (refine Ends.mk2 (by first | exact .inr rfl | exact .inl rfl) [] ?_; simp -dsimp (disch := first | exact vD | fail) only [push_cast, simprocAttr, Tryd.f22, U_0n]; (repeat (refine aI ?_)); try (first | exact vI | fail))
  have hd0 : (delR mkP l 0).2 = 0 := by rw [hd1]; exact Decidable.not_not.1 (by assumption)
  refine AC_range (sgR (tabT l (2 ^ L) L) L F xs _ _) [0, 1] (fd (goF F) 0 xs.length).1 rfl (by simp [bnd]) (by kernel_rfl) hit (by unfold sgR sgO; dsimp only; refine Sub.mk2 ?_; (simp -dsimp (disch := first | exact vD | fail) only [push_cast, simprocAttr, U_0n])) rfl (goF_t (fun i hi => absurd hi (by omega))) (Nat.zero_le 2) (fun j hj => by have e : j = 0 ∨ j = 1 := (by have : j < 2 := hj; omega); rcases e with e | e <;> subst e <;> rfl) (by simp [sgR, bnd, cX_bnd]) (by show 25 < 36; decide) (.inl rfl) (fun j x hj hx => ?_) (fun hg => ?_) (fun hg => ?_)
  · obtain ⟨hjl, rfl⟩ := yX_inv hx
    have hj : goF F j = true := hj
    have h3 := h3 j hjl
    have h4 := h4 j
    have hF2 := hF2 j
    unfold lsV at h3
    unfold dsV at h4
    rw [hF2] at h4
    have hgn : F j = false → goF F (j + 1) = true := fun e => goF_t (fun i hi => by
      by_cases ei : i = j
      · rw [ei]; exact e
      · exact goF_no hj i (by omega))
    have hgs : F j = true → goF F (j + 1) = false := fun e => by
      cases hh : goF F (j + 1) with
      | false => rfl
      | true => have := goF_no hh j (by omega); rw [e] at this; cases this
    clear hx
    dsimp only [sgR, sgO]
    rcases Bool.eq_false_or_eq_true (F j) with hff | hff
    all_goals repeat' (first | (refine Mid.mk rfl ?_; dsimp only) | (refine RQ_next [0, 1] ⟨hgn hff, rfl⟩ ?_; (try dsimp only); unfold sgO; (try simp only [List.cons_append, List.nil_append]); refine Sub.mk2 ?_; (simp -dsimp (disch := first | exact vD | fail) only [push_cast, simprocAttr, hff, Nat.add_sub_cancel]); (repeat (refine aI ?_)); (first | done | (first | exact vI | fail)); done) | (refine RQ_stop [0, 1] ⟨rfl, hgs hff, rfl⟩ ?_; (try dsimp only); unfold sgS; (try simp only [List.cons_append, List.nil_append]); refine Sub.mk2 ?_; (simp -dsimp (disch := first | exact vD | fail) only [push_cast, simprocAttr, hff, Nat.add_sub_cancel]); (repeat (refine aI ?_)); (first | done | (first | exact vI | fail)); done) | (refine AC_seq ?_) | (refine AC_region_lit ?_) | ((first | refine AL_go rfl (fun K hK => ?_) | refine AL_go0 (fun K hK => ?_)); (first | refine R_callG (f := 40) [] 0 false ?_ | refine R_callG (f := 49) [] 0 false ?_); simp -dsimp (disch := first | exact vD | fail) only [push_cast, simprocAttr, hff, Nat.add_sub_cancel]; (repeat (refine aI ?_)); intro G hG; refine hG _ _ ?_; clear hG G; (first | refine ⟨_, _, h3.down, ?_⟩ | refine ⟨_, _, h4.down, ?_⟩); simp -dsimp (disch := first | exact vD | fail) only [push_cast, simprocAttr, hff, Nat.add_sub_cancel]; (repeat (refine aI ?_)); (first | refine hK _ _ _ ?_ | refine hK _ _ ?_); clear hK K) | ((first | refine AL_go rfl (fun K hK => ?_) | refine AL_go0 (fun K hK => ?_)); (first | refine R_move _ ?_ | refine R_assign _ ?_ | refine Q_load _ _ ?_ | refine Q_loadAgg _ _ ?_ | refine Q_len _ _ ?_ | refine Q_lenStr _ _ ?_ | refine Q_extract _ _ ?_ | refine R_alloc _ ?_ | refine Q_store _ _ _ ?_ | refine Q_eqAgg _ _ _ _ ?_ | refine Q_neqAgg _ _ _ _ ?_ | refine Q_neqSelf _ _ _ _ ?_ | refine Q_bin _ _ _ _ _ ?_); simp -dsimp (disch := first | exact vD | fail) only [push_cast, simprocAttr, hff, Nat.add_sub_cancel]; (repeat (refine aI ?_)); (first | refine hK _ _ _ ?_ | refine hK _ _ ?_); clear hK K) | ((first | refine AL_guard rfl rfl (fun K1 K2 h1 h2 => ?_) rfl | refine AC_cond_k (fun K1 K2 h1 h2 => ?_)); simp -dsimp (disch := first | exact vD | fail) only [push_cast, simprocAttr, hff, Nat.add_sub_cancel]; (first | (refine ⟨fun hc => ?_, fun hc => ?_⟩ <;> first | (exfalso; omega) | (exfalso; contradiction) | refine h1 ?_ | refine h2 ?_) | refine h1 ?_ | refine h2 ?_); all_goals clear h1 h2 K1 K2) | (refine AL_nil ?_) | (refine Thn_normal ?_) | (refine Thn_ret ?_) | (refine Thn_exit ?_) | (refine Blk_normal ?_) | (refine Blk_ret ?_) | (refine Blk_here ?_) | (refine Blk_other rfl ?_) | (refine AC_block ?_) | (refine AC_exit ?_) | (refine AC_skip ?_) | (refine AC_ret ?_))
  · have hg : goF F (fd (goF F) 0 xs.length).1 = true := hg
    have hj2 : jx F xs.length = none := by
      cases e : jx F xs.length with
      | none => rfl
      | some j =>
        rw [show jxG F 0 xs.length = some j from e] at hfd
        rw [hfd] at hg; dsimp only at hg
        have := goF_no hg j (by omega)
        rw [(jx_some e).2.1] at this; cases this
    rw [splgR_3 hL hxs hd0 (by rw [hF]; exact hj2)]
    unfold splgV
    dsimp only [sgR, sgO]
    repeat' (first | (refine AC_seq ?_) | (refine AC_region_lit ?_) | ((first | refine AL_go rfl (fun K hK => ?_) | refine AL_go0 (fun K hK => ?_)); (first | refine R_move _ ?_ | refine R_assign _ ?_ | refine Q_load _ _ ?_ | refine Q_loadAgg _ _ ?_ | refine Q_len _ _ ?_ | refine Q_lenStr _ _ ?_ | refine Q_extract _ _ ?_ | refine R_alloc _ ?_ | refine Q_store _ _ _ ?_ | refine Q_eqAgg _ _ _ _ ?_ | refine Q_neqAgg _ _ _ _ ?_ | refine Q_neqSelf _ _ _ _ ?_ | refine Q_bin _ _ _ _ _ ?_); simp -dsimp (disch := first | exact vD | fail) only [push_cast, simprocAttr]; (repeat (refine aI ?_)); (first | refine hK _ _ _ ?_ | refine hK _ _ ?_); clear hK K) | ((first | refine AL_guard rfl rfl (fun K1 K2 h1 h2 => ?_) rfl | refine AC_cond_k (fun K1 K2 h1 h2 => ?_)); simp -dsimp (disch := first | exact vD | fail) only [push_cast, simprocAttr]; (first | (refine ⟨fun hc => ?_, fun hc => ?_⟩ <;> first | (exfalso; omega) | (exfalso; contradiction) | refine h1 ?_ | refine h2 ?_) | refine h1 ?_ | refine h2 ?_); all_goals clear h1 h2 K1 K2) | (refine AL_nil ?_) | (refine Thn_normal ?_) | (refine Thn_ret ?_) | (refine Thn_exit ?_) | (refine Blk_normal ?_) | (refine Blk_ret ?_) | (refine Blk_here ?_) | (refine Blk_other rfl ?_) | (refine AC_block ?_) | (refine AC_exit ?_) | (refine AC_skip ?_) | (refine AC_ret ?_))
    (refine Ends.mk2 (by first | exact .inr rfl | exact .inl rfl) [] ?_; simp -dsimp (disch := first | exact vD | fail) only [push_cast, simprocAttr, Tryd.f22, U_0n]; (repeat (refine aI ?_)); try (first | exact vI | fail))
  · have hg : goF F (fd (goF F) 0 xs.length).1 = false := hg
    obtain ⟨j, hj⟩ : ∃ j, jx F xs.length = some j := by
      cases e : jx F xs.length with
      | some j => exact ⟨j, rfl⟩
      | none =>
        rw [show jxG F 0 xs.length = none from e] at hfd
        rw [hfd] at hg; dsimp only at hg
        rw [goF_t (fun i hi => jx_no e i (by simpa using hi))] at hg; cases hg
    rw [splgR_2 hL hxs hd0 (by rw [hF]; exact hj)]
    rw [show jxG F 0 xs.length = some j from hj] at hfd
    rw [hfd]
    unfold splgV
    dsimp only [sgR, sgS]
    repeat' (first | (refine AC_seq ?_) | (refine AC_region_lit ?_) | ((first | refine AL_go rfl (fun K hK => ?_) | refine AL_go0 (fun K hK => ?_)); (first | refine R_move _ ?_ | refine R_assign _ ?_ | refine Q_load _ _ ?_ | refine Q_loadAgg _ _ ?_ | refine Q_len _ _ ?_ | refine Q_lenStr _ _ ?_ | refine Q_extract _ _ ?_ | refine R_alloc _ ?_ | refine Q_store _ _ _ ?_ | refine Q_eqAgg _ _ _ _ ?_ | refine Q_neqAgg _ _ _ _ ?_ | refine Q_neqSelf _ _ _ _ ?_ | refine Q_bin _ _ _ _ _ ?_); simp -dsimp (disch := first | exact vD | fail) only [push_cast, simprocAttr]; (repeat (refine aI ?_)); (first | refine hK _ _ _ ?_ | refine hK _ _ ?_); clear hK K) | ((first | refine AL_guard rfl rfl (fun K1 K2 h1 h2 => ?_) rfl | refine AC_cond_k (fun K1 K2 h1 h2 => ?_)); simp -dsimp (disch := first | exact vD | fail) only [push_cast, simprocAttr]; (first | (refine ⟨fun hc => ?_, fun hc => ?_⟩ <;> first | (exfalso; omega) | (exfalso; contradiction) | refine h1 ?_ | refine h2 ?_) | refine h1 ?_ | refine h2 ?_); all_goals clear h1 h2 K1 K2) | (refine AL_nil ?_) | (refine Thn_normal ?_) | (refine Thn_ret ?_) | (refine Thn_exit ?_) | (refine Blk_normal ?_) | (refine Blk_ret ?_) | (refine Blk_here ?_) | (refine Blk_other rfl ?_) | (refine AC_block ?_) | (refine AC_exit ?_) | (refine AC_skip ?_) | (refine AC_ret ?_))
    (refine Ends.mk2 (by first | exact .inr rfl | exact .inl rfl) [] ?_; simp -dsimp (disch := first | exact vD | fail) only [push_cast, simprocAttr, Tryd.f22, Nat.add_sub_cancel]; (repeat (refine aI ?_)); try (first | exact vI | fail))
end Go.Proofs.YtgnkcohlfdddnaaDoor
