/- Diagrams: the program's Dual. No condition. -/
import Derived.Test.YtabafldpnkjboaaDoorDi7
import Derived.Test.YtabafldpnkjboaaDoorDgA
set_option linter.unusedVariables false
set_option linter.unusedSectionVars false
set_option linter.unusedSimpArgs false
set_option maxHeartbeats 4000000
set_option maxRecDepth 20000
namespace Go.Proofs.YtabafldpnkjboaaDoor
open Go Go.Sy Go.Dg
attribute [local irreducible] AO AL AC OpT ACall Ends DGo DRun Thn Blk Nxt
section
variable {X : Type} [DecidableEq X] {key : X → List Int} {K : List (X × Nat)} {x : X} {w : Nat}
def knM (key : X → List Int) (K : List (X × Nat)) : List (List Int × AV) := K.map fun p => (key p.1, .val (.int .i64 (p.2 : Int)))
theorem knM_pv : PV (knM key K) := fun x hx => by
  obtain ⟨p, _, rfl⟩ := List.mem_map.1 hx
  exact ⟨_, rfl⟩
theorem knM_ren {τ : Nat → Nat} : ((knM key K).map fun x => (x.1, ren τ x.2)) = knM key K := knM_pv.id fun v => by simp [ren]
theorem knM_toA {st : St} {σ : List Nat} {fz : Bool} {j : Nat} : ((knM key K).map fun x => (x.1, toA st σ fz (j + 1) x.2)) = knM key K := knM_pv.id fun v => by simp [toA]
theorem knM_bnd {j : Nat} : (∀ x ∈ knM key K, bnd j x.2) = True := knM_pv.all fun v => by simp [bnd]
theorem knM_noImm : (∀ x ∈ knM key K, noImm x.2) = True := knM_pv.all fun v => by simp [noImm]
theorem knM_nil : knM key [] = [] := rfl
theorem assoc_knM (hi : ∀ a b, key a = key b → a = b) : assoc (knM key K) (key x) = (lookK K x).map fun w => .val (.int .i64 (w : Int)) := by
  unfold lookK
  induction K with
  | nil => rfl
  | cons p K ih =>
    obtain ⟨y, w⟩ := p
    have e : knM key ((y, w) :: K) = (key y, .val (.int .i64 (w : Int))) :: knM key K := rfl
    rw [e]
    simp only [assoc]
    by_cases h : y = x
    · subst h; simp
    · rw [if_neg (fun hc => h (hi _ _ hc)), ih, List.find?_cons_of_neg (by simpa using h)]
theorem knM_none (hi : ∀ a b, key a = key b → a = b) (h : lookK K x = none) : assoc (knM key K) (key x) = none := by rw [assoc_knM hi, h]; rfl
theorem knM_some (hi : ∀ a b, key a = key b → a = b) (h : lookK K x = some w) : assoc (knM key K) (key x) = some (.val (.int .i64 (w : Int))) := by rw [assoc_knM hi, h]; rfl
theorem knM_put (hi : ∀ a b, key a = key b → a = b) (h : lookK K x = none) : putM (knM key K) (key x) (.val (.int .i64 (w : Int))) = knM key (K ++ [(x, w)]) := by
  rw [put_new _ _ _ (knM_none hi h)]; unfold knM; rw [List.map_append]; rfl
end
attribute [push_cast] knM_ren knM_toA knM_bnd knM_noImm
section
variable {X : Type} [DecidableEq X] {Y : GSys X} {x : X} {n k : Nat}
theorem look_none {K : List (X × Nat)} (h : ∀ p ∈ K, ¬ p.1 = x) : lookK K x = none := by
  unfold lookK
  rw [List.find?_eq_none.2 (fun p hp => by simpa using h p hp)]; rfl
theorem look_none' {K : List (X × Nat)} (h : lookK K x = none) : ∀ p ∈ K, ¬ p.1 = x := by
  unfold lookK at h
  rw [Option.map_eq_none_iff, List.find?_eq_none] at h
  intro p hp; simpa using h p hp
theorem mgr_keys {Ok : X → Prop} (hY : SysOk Y n Ok) : ∀ (k : Nat) (x : X) (S : List Fo × List (X × Nat)), Ok x → ∀ p ∈ (mgr Y k x S).1.2, p ∈ S.2 ∨ Y.rk p.1 ≤ Y.rk x := by
  intro k
  induction k with
  | zero => intro x S _ p hp; exact .inl hp
  | succ k ih =>
    intro x S hx p hp
    cases ht : Y.term x with
    | some c => rw [mgr_term ht] at hp; exact .inl hp
    | none =>
      cases hl : lookK S.2 x with
      | some w => rw [mgr_hit ht hl] at hp; exact .inl hp
      | none =>
        obtain ⟨o0, r0, l0⟩ := hY.o0 x hx ht
        obtain ⟨o1, r1, l1⟩ := hY.o1 x hx ht
        have i0 := ih (Y.k0 x) S o0
        generalize e0 : mgr Y k (Y.k0 x) S = R0 at i0
        obtain ⟨S1, a⟩ := R0
        have i1 := ih (Y.k1 x) S1 o1
        generalize e1 : mgr Y k (Y.k1 x) S1 = R1 at i1
        obtain ⟨S2, b⟩ := R1
        rw [mgr_new ht hl e0 e1] at hp
        dsimp only at hp i0 i1
        rcases List.mem_append.1 hp with h | h
        · rcases i1 p h with h | h
          · rcases i0 p h with h | h
            · exact .inl h
            · exact .inr (by omega)
          · exact .inr (by omega)
        · rw [List.mem_singleton.1 h]; exact .inr (Nat.le_refl _)
theorem mgr_look {Ok : X → Prop} {S S1 S2 : List Fo × List (X × Nat)} {a b : Nat} (hY : SysOk Y n Ok) (hx : Ok x) (ht : Y.term x = none) (hl : lookK S.2 x = none) (e0 : mgr Y k (Y.k0 x) S = (S1, a)) (e1 : mgr Y k (Y.k1 x) S1 = (S2, b)) : lookK S2.2 x = none := by
  obtain ⟨o0, r0, l0⟩ := hY.o0 x hx ht
  obtain ⟨o1, r1, l1⟩ := hY.o1 x hx ht
  refine look_none fun p hp e => ?_
  have h1 := mgr_keys hY k (Y.k1 x) S1 o1 p (by rw [e1]; exact hp)
  rcases h1 with h1 | h1
  · have h0 := mgr_keys hY k (Y.k0 x) S o0 p (by rw [e0]; exact h1)
    rcases h0 with h0 | h0
    · exact look_none' hl p h0 e
    · rw [e] at h0; omega
  · rw [e] at h1; omega
theorem mgr_ne : ∀ (k : Nat) (x : X) (S : List Fo × List (X × Nat)), S.1 ≠ [] → (mgr Y k x S).1.1 ≠ [] := by
  intro k
  induction k with
  | zero => intro x S h; exact h
  | succ k ih =>
    intro x S h
    cases ht : Y.term x with
    | some c => rw [mgr_term ht]; exact h
    | none =>
      cases hl : lookK S.2 x with
      | some w => rw [mgr_hit ht hl]; exact h
      | none =>
        have i0 := ih (Y.k0 x) S h
        generalize e0 : mgr Y k (Y.k0 x) S = R0 at i0
        obtain ⟨S1, a⟩ := R0
        have i1 := ih (Y.k1 x) S1 i0
        generalize e1 : mgr Y k (Y.k1 x) S1 = R1 at i1
        obtain ⟨S2, b⟩ := R1
        rw [mgr_new ht hl e0 e1]
        exact mkF_ne i1
theorem mgr_len {Ok : X → Prop} (hY : SysOk Y n Ok) (k : Nat) (x : X) (S : List Fo × List (X × Nat)) (hx : Ok x) (hk : Y.rk x < k) (hg : Go.Dg.Good n S.1) (hK : Kok Y n S.1 S.2) : Go.Dg.Good n (mgr Y k x S).1.1 ∧ Kok Y n (mgr Y k x S).1.1 (mgr Y k x S).1.2 := by
  obtain ⟨F, K⟩ := S
  have h := mgr_ok hY k x F K hx hk hg hK
  exact ⟨(h.1.hit hg (hY.le hx)).1, h.2⟩
theorem mgr_bound {Ok : X → Prop} {F : List Fo} {K : List (X × Nat)} (hY : SysOk Y n Ok) (hx : Ok x) (hk : Y.rk x < k) (hg : Go.Dg.Good n F) (hK : Kok Y n F K) : (mgr Y k x (F, K)).1.1.length + 1 ≤ F.length + 2 ^ (n - Y.lev x) := by
  have h := (mgr_ok hY k x F K hx hk hg hK).1
  have hl := hY.le hx
  have e := h (Y.φ x) (n - Y.lev x) (Y.lev x) 0 (by omega) (Nat.two_pow_pos _) (Nat.le_refl _) (fun _ _ => rfl)
  have := gen_len (tab := Y.φ x) (n - Y.lev x) (Y.lev x) 0 F
  rw [e] at this; exact this
theorem mgr_calls {Ok : X → Prop} (hY : SysOk Y n Ok) (P : X → List Fo × List (X × Nat) → List Fo × List (X × Nat) → Nat → Prop)
    (ht : ∀ x c S, Ok x → Y.term x = some c → P x S S c)
    (hh : ∀ x w S, Ok x → Y.term x = none → lookK S.2 x = some w → P x S S w)
    (hn : ∀ x S S1 S2 a b, Ok x → Y.term x = none → lookK S.2 x = none → lookK S2.2 x = none → S2.1.length < 2 ^ 20 → (S.1 ≠ [] → S1.1 ≠ []) → (S1.1 ≠ [] → S2.1 ≠ []) → P (Y.k0 x) S S1 a → P (Y.k1 x) S1 S2 b →
      P x S ((mkF S2.1 (Y.lev x) a b).1, S2.2 ++ [(x, (mkF S2.1 (Y.lev x) a b).2)]) (mkF S2.1 (Y.lev x) a b).2) :
    ∀ (k : Nat) (x : X) (F : List Fo) (K : List (X × Nat)), Ok x → Y.rk x < k → Go.Dg.Good n F → Kok Y n F K → F.length + 2 ^ (n - Y.lev x) < 2 ^ 20 → P x (F, K) (mgr Y k x (F, K)).1 (mgr Y k x (F, K)).2 := by
  intro k
  induction k with
  | zero => intro x F K _ h; omega
  | succ k ih =>
    intro x F K hx hk hg hK hl
    cases htm : Y.term x with
    | some c => rw [mgr_term htm]; exact ht x c _ hx htm
    | none =>
      cases hlk : lookK K x with
      | some w => rw [mgr_hit htm hlk]; exact hh x w (F, K) hx htm hlk
      | none =>
        obtain ⟨o0, r0, l0⟩ := hY.o0 x hx htm
        obtain ⟨o1, r1, l1⟩ := hY.o1 x hx htm
        have hv := hY.lv x hx htm
        have p0 : 2 ^ (n - Y.lev (Y.k0 x)) ≤ 2 ^ (n - Y.lev x - 1) := Nat.pow_le_pow_right (by omega) (by omega)
        have p1 : 2 ^ (n - Y.lev (Y.k1 x)) ≤ 2 ^ (n - Y.lev x - 1) := Nat.pow_le_pow_right (by omega) (by omega)
        have pp := Nat.two_pow_pos (n - Y.lev x - 1)
        have pp0 := Nat.two_pow_pos (n - Y.lev (Y.k0 x))
        have pp1 := Nat.two_pow_pos (n - Y.lev (Y.k1 x))
        have p2 : 2 ^ (n - Y.lev x) = 2 ^ (n - Y.lev x - 1) + 2 ^ (n - Y.lev x - 1) := by
          obtain ⟨m, hm⟩ : ∃ m, n - Y.lev x = m + 1 := ⟨n - Y.lev x - 1, by omega⟩
          rw [hm, Nat.pow_succ, Nat.add_sub_cancel]; omega
        have b0 := mgr_bound hY o0 (show Y.rk (Y.k0 x) < k by omega) hg hK
        have m0 := mgr_len hY k (Y.k0 x) (F, K) o0 (by omega) hg hK
        have n0 := mgr_ne (Y := Y) k (Y.k0 x) (F, K)
        have i0 := ih (Y.k0 x) F K o0 (by omega) hg hK (by omega)
        generalize e0 : mgr Y k (Y.k0 x) (F, K) = R0 at i0 b0 m0 n0
        obtain ⟨⟨F1, K1⟩, a⟩ := R0
        dsimp only at i0 b0 m0 n0
        have b1 := mgr_bound hY o1 (show Y.rk (Y.k1 x) < k by omega) m0.1 m0.2
        have n1 := mgr_ne (Y := Y) k (Y.k1 x) (F1, K1)
        have i1 := ih (Y.k1 x) F1 K1 o1 (by omega) m0.1 m0.2 (by omega)
        generalize e1 : mgr Y k (Y.k1 x) (F1, K1) = R1 at i1 b1 n1
        obtain ⟨⟨F2, K2⟩, b⟩ := R1
        dsimp only at i1 b1 n1
        have hlk2 := mgr_look hY hx htm hlk e0 e1
        rw [mgr_new htm hlk e0 e1]
        exact hn x (F, K) (F1, K1) (F2, K2) a b hx htm hlk hlk2 (by dsimp only; omega) n0 n1 i0 i1
end
variable {A F F1 F2 G : List Fo} {K K1 K2 K3 : List (Nat × Nat)} {n N k k1 k2 k' i m r a b j w : Nat} {q : Int} {z : Bool}
def kD (x : Nat) : List Int := [(x : Int)]
theorem kD_inj (a b : Nat) (h : kD a = kD b) : a = b := by simp [kD] at h; omega
abbrev dlA (z : Bool) (n : Nat) (A : List Fo) (N : Nat) (q : Int) : List AV := [.pt 2 0, .ipt [.val (.int .i64 n), .isl z (cR A) N, .val (.int .i64 q)] 0, .pt 0 0, .pt 1 0]
abbrev dl0 (z : Bool) (n : Nat) (A : List Fo) (N : Nat) (q : Int) (K : List (Nat × Nat)) : List AObj := [.cells [.fn 39 (dlA z n A N q)] 84, .cells [.pt 3 0] 81, .cells [.mp 5] 83, .cells [.isl true [] 0, .mp 4] 110, .map true 3 [], .map false 1 (knM kD K)]
abbrev dlS (z : Bool) (n : Nat) (A : List Fo) (N : Nat) (q : Int) (F : List Fo) (k : Nat) (K : List (Nat × Nat)) : List AObj := [.cells [.fn 39 (dlA z n A N q)] 84, .cells [.pt 3 0] 81, .cells [.mp 5] 83, .cells [.sl 6 0 k 3, .mp 4] 110, .map true 3 (atM F), .map false 1 (knM kD K), .cells (cR F) 87]
theorem dual_lt (hr : r < 2) : ACall Tryd.prog 39 (.val (.int .i64 r) :: dlA z n A N q) (dl0 z n A N q K) 6 (.val (.int .i64 ((1 - r : Nat) : Int))) (dl0 z n A N q K) := by
  have e : ((1 - r : Nat) : Int) = 1 - (r : Int) := by omega
  unfold dlA dl0
  rw [e]
  refine ACall.enter Tryd.func39 rfl (by simp [Tryd.ntmps39]) (by simp) ?_; simp only [entry, idx, Tryd.ntmps39, List.length, List.map_cons, List.map_nil, List.append_nil, List.cons_append, List.nil_append, Nat.reduceAdd, Nat.zero_add, List.length_cons, List.length_nil]
  repeat' (first | apply AC_seq | apply AC_region_lit | ((first | refine AL_go rfl (fun K hK => ?_) | refine AL_go0 (fun K hK => ?_) | refine DG_run (fun K hK => ?_)); (first | apply R_move | apply R_assign | apply Q_load | apply Q_loadAgg | apply Q_fieldAddr | apply Q_indexAddr | apply Q_indexArr | apply Q_extract | apply R_alloc | apply Q_store | apply Q_lookup | apply Q_lookupOk | apply Q_mapUpdate | apply Q_bin); simp -dsimp (disch := try exact vD) only [push_cast, simprocAttr]; (repeat refine aI ?_); apply hK; clear hK K) | ((first | refine AL_guard rfl rfl (fun K1 K2 h1 h2 => ?_) rfl | refine AC_cond_k (fun K1 K2 h1 h2 => ?_) | refine DG_guard rfl rfl (fun K1 K2 h1 h2 => ?_)); simp -dsimp (disch := try exact vD) only [push_cast, simprocAttr]; (first | (refine ⟨fun hc => ?_, fun hc => ?_⟩ <;> first | (exfalso; omega) | (exfalso; contradiction) | refine h1 ?_ | refine h2 ?_) | refine h1 ?_ | refine h2 ?_); all_goals clear h1 h2 K1 K2) | (refine AC_draw (id := 8) (by kernel_rfl) [⟨0, [], [35, 36, 37, 38, 39, 40, 41], [2], [], 0⟩, ⟨1, [], [34, 37, 38, 39, 40, 41], [2], [], 0⟩, ⟨2, [1], [34, 37, 38, 39, 40, 41], [2], [], 0⟩, ⟨3, [], [34, 35, 36, 38, 39, 40, 41], [2], [], 0⟩, ⟨4, [], [34, 35, 36, 37, 39, 40], [], [], 0⟩, ⟨5, [], [34, 35, 36, 37, 38], [], [], 0⟩, ⟨6, [5], [34, 35, 36, 37, 38], [], [], 0⟩, ⟨7, [4, 5, 6], [34, 35, 36, 37], [], [2], 0⟩, ⟨8, [0, 1, 2, 3, 4, 5, 6, 7], [], [], [], 0⟩, ⟨9, [0, 1, 2, 3, 4, 5, 6, 7, 8], [], [], [], 0⟩] (by kernel_rfl) (by kernel_rfl) (by kernel_rfl) ?_) | ((first | refine DG_next' (by kernel_rfl) (fun K hK => ?_) | refine DG_nil (by kernel_rfl) (fun K hK => ?_)); simp only [↓Go.Sy.dsnE_some, ↓Go.Sy.dsnE_none, ↓Go.Sy.dsnE_nil, ↓Go.Sy.dsnO_snoc, ↓Go.Sy.dsnO_nil, ↓Go.Sy.nidAt_snoc, ↓Go.Sy.nidAt_nil, push_cast, Nat.reduceLeDiff, Nat.reduceSub, Nat.reduceBEq, Nat.reduceEqDiff, Nat.reduceAdd, Nat.reduceLT, ↓reduceIte, reduceCtorEq]; refine hK _ _ _ ?_; clear hK K) | apply DG_go | apply AL_nil | apply Thn_normal | apply Thn_ret | apply Thn_exit | apply Blk_normal | apply Blk_ret | apply Blk_here | (refine Blk_other rfl ?_) | apply AC_block | apply AC_exit | apply AC_skip | apply AC_ret)
  all_goals ((refine Ends.mk2 (by first | exact .inr rfl | exact .inl rfl) [0, 1, 2, 3, 4, 5] ?_; simp -dsimp (disch := try exact vD) only [push_cast, simprocAttr, Tryd.f39]; (repeat refine aI ?_); try (first | exact vI | fail)))
theorem dual_ltS (hr : r < 2) : ACall Tryd.prog 39 (.val (.int .i64 r) :: dlA z n A N q) (dlS z n A N q F k K) 6 (.val (.int .i64 ((1 - r : Nat) : Int))) (dlS z n A N q F k K) := by
  have e : ((1 - r : Nat) : Int) = 1 - (r : Int) := by omega
  unfold dlA dlS
  rw [e]
  refine ACall.enter Tryd.func39 rfl (by simp [Tryd.ntmps39]) (by simp) ?_; simp only [entry, idx, Tryd.ntmps39, List.length, List.map_cons, List.map_nil, List.append_nil, List.cons_append, List.nil_append, Nat.reduceAdd, Nat.zero_add, List.length_cons, List.length_nil]
  repeat' (first | apply AC_seq | apply AC_region_lit | ((first | refine AL_go rfl (fun K hK => ?_) | refine AL_go0 (fun K hK => ?_) | refine DG_run (fun K hK => ?_)); (first | apply R_move | apply R_assign | apply Q_load | apply Q_loadAgg | apply Q_fieldAddr | apply Q_indexAddr | apply Q_indexArr | apply Q_extract | apply R_alloc | apply Q_store | apply Q_lookup | apply Q_lookupOk | apply Q_mapUpdate | apply Q_bin); simp -dsimp (disch := try exact vD) only [push_cast, simprocAttr]; (repeat refine aI ?_); apply hK; clear hK K) | ((first | refine AL_guard rfl rfl (fun K1 K2 h1 h2 => ?_) rfl | refine AC_cond_k (fun K1 K2 h1 h2 => ?_) | refine DG_guard rfl rfl (fun K1 K2 h1 h2 => ?_)); simp -dsimp (disch := try exact vD) only [push_cast, simprocAttr]; (first | (refine ⟨fun hc => ?_, fun hc => ?_⟩ <;> first | (exfalso; omega) | (exfalso; contradiction) | refine h1 ?_ | refine h2 ?_) | refine h1 ?_ | refine h2 ?_); all_goals clear h1 h2 K1 K2) | (refine AC_draw (id := 8) (by kernel_rfl) [⟨0, [], [35, 36, 37, 38, 39, 40, 41], [2], [], 0⟩, ⟨1, [], [34, 37, 38, 39, 40, 41], [2], [], 0⟩, ⟨2, [1], [34, 37, 38, 39, 40, 41], [2], [], 0⟩, ⟨3, [], [34, 35, 36, 38, 39, 40, 41], [2], [], 0⟩, ⟨4, [], [34, 35, 36, 37, 39, 40], [], [], 0⟩, ⟨5, [], [34, 35, 36, 37, 38], [], [], 0⟩, ⟨6, [5], [34, 35, 36, 37, 38], [], [], 0⟩, ⟨7, [4, 5, 6], [34, 35, 36, 37], [], [2], 0⟩, ⟨8, [0, 1, 2, 3, 4, 5, 6, 7], [], [], [], 0⟩, ⟨9, [0, 1, 2, 3, 4, 5, 6, 7, 8], [], [], [], 0⟩] (by kernel_rfl) (by kernel_rfl) (by kernel_rfl) ?_) | ((first | refine DG_next' (by kernel_rfl) (fun K hK => ?_) | refine DG_nil (by kernel_rfl) (fun K hK => ?_)); simp only [↓Go.Sy.dsnE_some, ↓Go.Sy.dsnE_none, ↓Go.Sy.dsnE_nil, ↓Go.Sy.dsnO_snoc, ↓Go.Sy.dsnO_nil, ↓Go.Sy.nidAt_snoc, ↓Go.Sy.nidAt_nil, push_cast, Nat.reduceLeDiff, Nat.reduceSub, Nat.reduceBEq, Nat.reduceEqDiff, Nat.reduceAdd, Nat.reduceLT, ↓reduceIte, reduceCtorEq]; refine hK _ _ _ ?_; clear hK K) | apply DG_go | apply AL_nil | apply Thn_normal | apply Thn_ret | apply Thn_exit | apply Blk_normal | apply Blk_ret | apply Blk_here | (refine Blk_other rfl ?_) | apply AC_block | apply AC_exit | apply AC_skip | apply AC_ret)
  all_goals ((refine Ends.mk2 (by first | exact .inr rfl | exact .inl rfl) [0, 1, 2, 3, 4, 5, 6] ?_; simp -dsimp (disch := try exact vD) only [push_cast, simprocAttr, Tryd.f39]; (repeat refine aI ?_); try (first | exact vI | fail)))
theorem dual_hit (ha : assoc (knM kD K) [(j : Int) + 1 + 1] = some (.val (.int .i64 (w : Int)))) : ACall Tryd.prog 39 (.val (.int .i64 ((j : Int) + 1 + 1)) :: dlA z n A N q) (dl0 z n A N q K) 6 (.val (.int .i64 w)) (dl0 z n A N q K) := by
  have hg : ¬ (j : Int) + 1 + 1 < 2 := by omega
  unfold dlA dl0
  refine ACall.enter Tryd.func39 rfl (by simp [Tryd.ntmps39]) (by simp) ?_; simp only [entry, idx, Tryd.ntmps39, List.length, List.map_cons, List.map_nil, List.append_nil, List.cons_append, List.nil_append, Nat.reduceAdd, Nat.zero_add, List.length_cons, List.length_nil]
  repeat' (first | apply AC_seq | apply AC_region_lit | ((first | refine AL_go rfl (fun K hK => ?_) | refine AL_go0 (fun K hK => ?_) | refine DG_run (fun K hK => ?_)); (first | apply R_move | apply R_assign | apply Q_load | apply Q_loadAgg | apply Q_fieldAddr | apply Q_indexAddr | apply Q_indexArr | apply Q_extract | apply R_alloc | apply Q_store | apply Q_lookup | apply Q_lookupOk | apply Q_mapUpdate | apply Q_bin); simp -dsimp (disch := try exact vD) only [push_cast, simprocAttr, hg, ha]; (repeat refine aI ?_); apply hK; clear hK K) | ((first | refine AL_guard rfl rfl (fun K1 K2 h1 h2 => ?_) rfl | refine AC_cond_k (fun K1 K2 h1 h2 => ?_) | refine DG_guard rfl rfl (fun K1 K2 h1 h2 => ?_)); simp -dsimp (disch := try exact vD) only [push_cast, simprocAttr, hg, ha]; (first | (refine ⟨fun hc => ?_, fun hc => ?_⟩ <;> first | (exfalso; omega) | (exfalso; contradiction) | refine h1 ?_ | refine h2 ?_) | refine h1 ?_ | refine h2 ?_); all_goals clear h1 h2 K1 K2) | (refine AC_draw (id := 8) (by kernel_rfl) [⟨0, [], [35, 36, 37, 38, 39, 40, 41], [2], [], 0⟩, ⟨1, [], [34, 37, 38, 39, 40, 41], [2], [], 0⟩, ⟨2, [1], [34, 37, 38, 39, 40, 41], [2], [], 0⟩, ⟨3, [], [34, 35, 36, 38, 39, 40, 41], [2], [], 0⟩, ⟨4, [], [34, 35, 36, 37, 39, 40], [], [], 0⟩, ⟨5, [], [34, 35, 36, 37, 38], [], [], 0⟩, ⟨6, [5], [34, 35, 36, 37, 38], [], [], 0⟩, ⟨7, [4, 5, 6], [34, 35, 36, 37], [], [2], 0⟩, ⟨8, [0, 1, 2, 3, 4, 5, 6, 7], [], [], [], 0⟩, ⟨9, [0, 1, 2, 3, 4, 5, 6, 7, 8], [], [], [], 0⟩] (by kernel_rfl) (by kernel_rfl) (by kernel_rfl) ?_) | ((first | refine DG_next' (by kernel_rfl) (fun K hK => ?_) | refine DG_nil (by kernel_rfl) (fun K hK => ?_)); simp only [↓Go.Sy.dsnE_some, ↓Go.Sy.dsnE_none, ↓Go.Sy.dsnE_nil, ↓Go.Sy.dsnO_snoc, ↓Go.Sy.dsnO_nil, ↓Go.Sy.nidAt_snoc, ↓Go.Sy.nidAt_nil, push_cast, Nat.reduceLeDiff, Nat.reduceSub, Nat.reduceBEq, Nat.reduceEqDiff, Nat.reduceAdd, Nat.reduceLT, ↓reduceIte, reduceCtorEq]; refine hK _ _ _ ?_; clear hK K) | apply DG_go | apply AL_nil | apply Thn_normal | apply Thn_ret | apply Thn_exit | apply Blk_normal | apply Blk_ret | apply Blk_here | (refine Blk_other rfl ?_) | apply AC_block | apply AC_exit | apply AC_skip | apply AC_ret)
  all_goals ((refine Ends.mk2 (by first | exact .inr rfl | exact .inl rfl) [0, 1, 2, 3, 4, 5] ?_; simp -dsimp (disch := try exact vD) only [push_cast, simprocAttr, Tryd.f39, ha]; (repeat refine aI ?_); try (first | exact vI | fail)))
theorem dual_hitS (ha : assoc (knM kD K) [(j : Int) + 1 + 1] = some (.val (.int .i64 (w : Int)))) : ACall Tryd.prog 39 (.val (.int .i64 ((j : Int) + 1 + 1)) :: dlA z n A N q) (dlS z n A N q F k K) 6 (.val (.int .i64 w)) (dlS z n A N q F k K) := by
  have hg : ¬ (j : Int) + 1 + 1 < 2 := by omega
  unfold dlA dlS
  refine ACall.enter Tryd.func39 rfl (by simp [Tryd.ntmps39]) (by simp) ?_; simp only [entry, idx, Tryd.ntmps39, List.length, List.map_cons, List.map_nil, List.append_nil, List.cons_append, List.nil_append, Nat.reduceAdd, Nat.zero_add, List.length_cons, List.length_nil]
  repeat' (first | apply AC_seq | apply AC_region_lit | ((first | refine AL_go rfl (fun K hK => ?_) | refine AL_go0 (fun K hK => ?_) | refine DG_run (fun K hK => ?_)); (first | apply R_move | apply R_assign | apply Q_load | apply Q_loadAgg | apply Q_fieldAddr | apply Q_indexAddr | apply Q_indexArr | apply Q_extract | apply R_alloc | apply Q_store | apply Q_lookup | apply Q_lookupOk | apply Q_mapUpdate | apply Q_bin); simp -dsimp (disch := try exact vD) only [push_cast, simprocAttr, hg, ha]; (repeat refine aI ?_); apply hK; clear hK K) | ((first | refine AL_guard rfl rfl (fun K1 K2 h1 h2 => ?_) rfl | refine AC_cond_k (fun K1 K2 h1 h2 => ?_) | refine DG_guard rfl rfl (fun K1 K2 h1 h2 => ?_)); simp -dsimp (disch := try exact vD) only [push_cast, simprocAttr, hg, ha]; (first | (refine ⟨fun hc => ?_, fun hc => ?_⟩ <;> first | (exfalso; omega) | (exfalso; contradiction) | refine h1 ?_ | refine h2 ?_) | refine h1 ?_ | refine h2 ?_); all_goals clear h1 h2 K1 K2) | (refine AC_draw (id := 8) (by kernel_rfl) [⟨0, [], [35, 36, 37, 38, 39, 40, 41], [2], [], 0⟩, ⟨1, [], [34, 37, 38, 39, 40, 41], [2], [], 0⟩, ⟨2, [1], [34, 37, 38, 39, 40, 41], [2], [], 0⟩, ⟨3, [], [34, 35, 36, 38, 39, 40, 41], [2], [], 0⟩, ⟨4, [], [34, 35, 36, 37, 39, 40], [], [], 0⟩, ⟨5, [], [34, 35, 36, 37, 38], [], [], 0⟩, ⟨6, [5], [34, 35, 36, 37, 38], [], [], 0⟩, ⟨7, [4, 5, 6], [34, 35, 36, 37], [], [2], 0⟩, ⟨8, [0, 1, 2, 3, 4, 5, 6, 7], [], [], [], 0⟩, ⟨9, [0, 1, 2, 3, 4, 5, 6, 7, 8], [], [], [], 0⟩] (by kernel_rfl) (by kernel_rfl) (by kernel_rfl) ?_) | ((first | refine DG_next' (by kernel_rfl) (fun K hK => ?_) | refine DG_nil (by kernel_rfl) (fun K hK => ?_)); simp only [↓Go.Sy.dsnE_some, ↓Go.Sy.dsnE_none, ↓Go.Sy.dsnE_nil, ↓Go.Sy.dsnO_snoc, ↓Go.Sy.dsnO_nil, ↓Go.Sy.nidAt_snoc, ↓Go.Sy.nidAt_nil, push_cast, Nat.reduceLeDiff, Nat.reduceSub, Nat.reduceBEq, Nat.reduceEqDiff, Nat.reduceAdd, Nat.reduceLT, ↓reduceIte, reduceCtorEq]; refine hK _ _ _ ?_; clear hK K) | apply DG_go | apply AL_nil | apply Thn_normal | apply Thn_ret | apply Thn_exit | apply Blk_normal | apply Blk_ret | apply Blk_here | (refine Blk_other rfl ?_) | apply AC_block | apply AC_exit | apply AC_skip | apply AC_ret)
  all_goals ((refine Ends.mk2 (by first | exact .inr rfl | exact .inl rfl) [0, 1, 2, 3, 4, 5, 6] ?_; simp -dsimp (disch := try exact vD) only [push_cast, simprocAttr, Tryd.f39, ha]; (repeat refine aI ?_); try (first | exact vI | fail)))
theorem dual_000 (hN : A.length = N) (hN2 : N < 2 ^ 40) (hj : j < N) (ha : assoc (knM kD K) [(j : Int) + 1 + 1] = none) (hp : putM (knM kD K2) [(j : Int) + 1 + 1] (.val (.int .i64 (a : Int))) = knM kD K3)
    (h1 : ACall Tryd.prog 39 (.val (.int .i64 (A.getD j default).hi) :: dlA z n A N q) (dl0 z n A N q K) 6 (.val (.int .i64 a)) (dl0 z n A N q K1)) (h2 : ACall Tryd.prog 39 (.val (.int .i64 (A.getD j default).lo) :: dlA z n A N q) (dl0 z n A N q K1) 6 (.val (.int .i64 a)) (dl0 z n A N q K2)) :
    ACall Tryd.prog 39 (.val (.int .i64 ((j : Int) + 1 + 1)) :: dlA z n A N q) (dl0 z n A N q K) 6 (.val (.int .i64 a)) (dl0 z n A N q K3) := by
  have hg : ¬ (j : Int) + 1 + 1 < 2 := by omega
  have h1 := PLift.up h1
  have h2 := PLift.up h2
  have h3 := PLift.up (fork_nil_eq (v := (A.getD j default).v) (lo := a))
  unfold dlA dl0 at *
  unfold b0 at h3
  refine ACall.enter Tryd.func39 rfl (by simp [Tryd.ntmps39]) (by simp) ?_; simp only [entry, idx, Tryd.ntmps39, List.length, List.map_cons, List.map_nil, List.append_nil, List.cons_append, List.nil_append, Nat.reduceAdd, Nat.zero_add, List.length_cons, List.length_nil]
  repeat' (first | apply AC_seq | apply AC_region_lit | ((first | refine AL_go rfl (fun K hK => ?_) | refine AL_go0 (fun K hK => ?_) | refine DG_runB [0, 1, 2] (fun K hK => ?_)); refine R_callFnG (f := 39) (dst := some 41) [0, 1, 2, 3, 4, 5] 6 false ?_; simp -dsimp (disch := try exact vD) only [push_cast, simprocAttr, hg, ha, sub12, tn12, fo_cells]; (repeat refine aI ?_); intro G hG; refine hG _ _ ?_; clear hG G; refine ⟨_, _, h2.down, ?_⟩; simp -dsimp (disch := try exact vD) only [push_cast, simprocAttr, hg, ha, sub12, tn12, fo_cells]; (repeat refine aI ?_); apply hK; clear hK K) | ((first | refine AL_go rfl (fun K hK => ?_) | refine AL_go0 (fun K hK => ?_) | refine DG_run (fun K hK => ?_)); (first | refine R_callFnG (f := 39) (dst := some 33) [0, 1, 2, 3, 4, 5] 6 false ?_ | refine R_callG (f := 40) [3, 4] 2 false ?_); simp -dsimp (disch := try exact vD) only [push_cast, simprocAttr, hg, ha, sub12, tn12, fo_cells]; (repeat refine aI ?_); intro G hG; refine hG _ _ ?_; clear hG G; (first | refine ⟨_, _, h1.down, ?_⟩ | refine ⟨_, _, h3.down, ?_⟩); simp -dsimp (disch := try exact vD) only [push_cast, simprocAttr, hg, ha, sub12, tn12, fo_cells]; (repeat refine aI ?_); apply hK; clear hK K) | ((first | refine AL_go rfl (fun K hK => ?_) | refine AL_go0 (fun K hK => ?_) | refine DG_run (fun K hK => ?_)); (first | apply R_move | apply R_assign | apply Q_load | apply Q_loadAgg | apply Q_fieldAddr | apply Q_indexAddr | apply Q_indexArr | apply Q_extract | apply R_alloc | apply Q_store | apply Q_lookup | apply Q_lookupOk | apply Q_mapUpdate | apply Q_bin); simp -dsimp (disch := try exact vD) only [push_cast, simprocAttr, hg, ha, sub12, tn12, fo_cells]; (repeat refine aI ?_); apply hK; clear hK K) | ((first | refine AL_guard rfl rfl (fun K1 K2 h1 h2 => ?_) rfl | refine AC_cond_k (fun K1 K2 h1 h2 => ?_) | refine DG_guard rfl rfl (fun K1 K2 h1 h2 => ?_)); simp -dsimp (disch := try exact vD) only [push_cast, simprocAttr, hg, ha, sub12, tn12, fo_cells]; (first | (refine ⟨fun hc => ?_, fun hc => ?_⟩ <;> first | (exfalso; omega) | (exfalso; contradiction) | refine h1 ?_ | refine h2 ?_) | refine h1 ?_ | refine h2 ?_); all_goals clear h1 h2 K1 K2) | (refine AC_draw (id := 8) (by kernel_rfl) [⟨0, [], [35, 36, 37, 38, 39, 40, 41], [6, 7, 8], [], 0⟩, ⟨1, [], [34, 37, 38, 39, 40, 41], [6, 7, 8], [], 0⟩, ⟨2, [1], [34, 37, 38, 39, 40, 41], [6, 7, 8], [], 0⟩, ⟨3, [], [34, 35, 36, 38, 39, 40, 41], [6, 7, 8], [], 0⟩, ⟨4, [], [34, 35, 36, 37, 39, 40], [], [], 0⟩, ⟨5, [], [34, 35, 36, 37, 38], [], [], 0⟩, ⟨6, [5], [34, 35, 36, 37, 38], [], [], 0⟩, ⟨7, [4, 5, 6], [34, 35, 36, 37], [], [6, 7, 8], 0⟩, ⟨8, [0, 1, 2, 3, 4, 5, 6, 7], [], [], [6, 7], 0⟩, ⟨9, [0, 1, 2, 3, 4, 5, 6, 7, 8], [], [], [], 0⟩] (by kernel_rfl) (by kernel_rfl) (by kernel_rfl) ?_) | ((first | refine DG_next' (by kernel_rfl) (fun K hK => ?_) | refine DG_nil (by kernel_rfl) (fun K hK => ?_)); simp only [↓Go.Sy.dsnE_some, ↓Go.Sy.dsnE_none, ↓Go.Sy.dsnE_nil, ↓Go.Sy.dsnO_snoc, ↓Go.Sy.dsnO_nil, ↓Go.Sy.nidAt_snoc, ↓Go.Sy.nidAt_nil, push_cast, Nat.reduceLeDiff, Nat.reduceSub, Nat.reduceBEq, Nat.reduceEqDiff, Nat.reduceAdd, Nat.reduceLT, ↓reduceIte, reduceCtorEq]; refine hK _ _ _ ?_; clear hK K) | apply DG_go | apply AL_nil | apply Thn_normal | apply Thn_ret | apply Thn_exit | apply Blk_normal | apply Blk_ret | apply Blk_here | (refine Blk_other rfl ?_) | apply AC_block | apply AC_exit | apply AC_skip | apply AC_ret)
  all_goals first
    | ((refine Ends.mk2 (by first | exact .inr rfl | exact .inl rfl) [0, 1, 2, 3, 4, 5] ?_; simp -dsimp (disch := try exact vD) only [push_cast, simprocAttr, Tryd.f39, ha, hp]; (repeat refine aI ?_); try (first | exact vI | fail)); done)
    | trace_state
theorem dual_00n (hN : A.length = N) (hN2 : N < 2 ^ 40) (hj : j < N) (ha : assoc (knM kD K) [(j : Int) + 1 + 1] = none) (hp : putM (knM kD K2) [(j : Int) + 1 + 1] (.val (.int .i64 (r : Int))) = knM kD K3)
    (h1 : ACall Tryd.prog 39 (.val (.int .i64 (A.getD j default).hi) :: dlA z n A N q) (dl0 z n A N q K) 6 (.val (.int .i64 a)) (dl0 z n A N q K1))
    (h2 : ACall Tryd.prog 39 (.val (.int .i64 (A.getD j default).lo) :: dlA z n A N q) (dl0 z n A N q K1) 6 (.val (.int .i64 b)) (dl0 z n A N q K2))
    (h3 : ACall Tryd.prog 40 [.pt 0 0, .val (.int .i64 (A.getD j default).v), .val (.int .i64 a), .val (.int .i64 b)] b0 2 (.val (.int .i64 r)) (bS G k')) :
    ACall Tryd.prog 39 (.val (.int .i64 ((j : Int) + 1 + 1)) :: dlA z n A N q) (dl0 z n A N q K) 6 (.val (.int .i64 r)) (dlS z n A N q G k' K3) := by
  have hg : ¬ (j : Int) + 1 + 1 < 2 := by omega
  have h1 := PLift.up h1
  have h2 := PLift.up h2
  have h3 := PLift.up h3
  unfold dlA dl0 dlS at *
  unfold b0 bS at h3
  refine ACall.enter Tryd.func39 rfl (by simp [Tryd.ntmps39]) (by simp) ?_; simp only [entry, idx, Tryd.ntmps39, List.length, List.map_cons, List.map_nil, List.append_nil, List.cons_append, List.nil_append, Nat.reduceAdd, Nat.zero_add, List.length_cons, List.length_nil]
  repeat' (first | apply AC_seq | apply AC_region_lit | ((first | refine AL_go rfl (fun K hK => ?_) | refine AL_go0 (fun K hK => ?_) | refine DG_runB [0, 1, 2] (fun K hK => ?_)); refine R_callFnG (f := 39) (dst := some 41) [0, 1, 2, 3, 4, 5] 6 false ?_; simp -dsimp (disch := try exact vD) only [push_cast, simprocAttr, hg, ha, sub12, tn12, fo_cells]; (repeat refine aI ?_); intro G hG; refine hG _ _ ?_; clear hG G; refine ⟨_, _, h2.down, ?_⟩; simp -dsimp (disch := try exact vD) only [push_cast, simprocAttr, hg, ha, sub12, tn12, fo_cells]; (repeat refine aI ?_); apply hK; clear hK K) | ((first | refine AL_go rfl (fun K hK => ?_) | refine AL_go0 (fun K hK => ?_) | refine DG_run (fun K hK => ?_)); (first | refine R_callFnG (f := 39) (dst := some 33) [0, 1, 2, 3, 4, 5] 6 false ?_ | refine R_callG (f := 40) [3, 4] 2 false ?_); simp -dsimp (disch := try exact vD) only [push_cast, simprocAttr, hg, ha, sub12, tn12, fo_cells]; (repeat refine aI ?_); intro G hG; refine hG _ _ ?_; clear hG G; (first | refine ⟨_, _, h1.down, ?_⟩ | refine ⟨_, _, h3.down, ?_⟩); simp -dsimp (disch := try exact vD) only [push_cast, simprocAttr, hg, ha, sub12, tn12, fo_cells]; (repeat refine aI ?_); apply hK; clear hK K) | ((first | refine AL_go rfl (fun K hK => ?_) | refine AL_go0 (fun K hK => ?_) | refine DG_run (fun K hK => ?_)); (first | apply R_move | apply R_assign | apply Q_load | apply Q_loadAgg | apply Q_fieldAddr | apply Q_indexAddr | apply Q_indexArr | apply Q_extract | apply R_alloc | apply Q_store | apply Q_lookup | apply Q_lookupOk | apply Q_mapUpdate | apply Q_bin); simp -dsimp (disch := try exact vD) only [push_cast, simprocAttr, hg, ha, sub12, tn12, fo_cells]; (repeat refine aI ?_); apply hK; clear hK K) | ((first | refine AL_guard rfl rfl (fun K1 K2 h1 h2 => ?_) rfl | refine AC_cond_k (fun K1 K2 h1 h2 => ?_) | refine DG_guard rfl rfl (fun K1 K2 h1 h2 => ?_)); simp -dsimp (disch := try exact vD) only [push_cast, simprocAttr, hg, ha, sub12, tn12, fo_cells]; (first | (refine ⟨fun hc => ?_, fun hc => ?_⟩ <;> first | (exfalso; omega) | (exfalso; contradiction) | refine h1 ?_ | refine h2 ?_) | refine h1 ?_ | refine h2 ?_); all_goals clear h1 h2 K1 K2) | (refine AC_draw (id := 8) (by kernel_rfl) [⟨0, [], [35, 36, 37, 38, 39, 40, 41], [6, 7, 8], [], 0⟩, ⟨1, [], [34, 37, 38, 39, 40, 41], [6, 7, 8], [], 0⟩, ⟨2, [1], [34, 37, 38, 39, 40, 41], [6, 7, 8], [], 0⟩, ⟨3, [], [34, 35, 36, 38, 39, 40, 41], [6, 7, 8], [], 0⟩, ⟨4, [], [34, 35, 36, 37, 39, 40], [], [], 0⟩, ⟨5, [], [34, 35, 36, 37, 38], [], [], 0⟩, ⟨6, [5], [34, 35, 36, 37, 38], [], [], 0⟩, ⟨7, [4, 5, 6], [34, 35, 36, 37], [], [6, 7, 8], 0⟩, ⟨8, [0, 1, 2, 3, 4, 5, 6, 7], [], [], [6, 7], 1⟩, ⟨9, [0, 1, 2, 3, 4, 5, 6, 7, 8], [], [], [], 0⟩] (by kernel_rfl) (by kernel_rfl) (by kernel_rfl) ?_) | ((first | refine DG_next' (by kernel_rfl) (fun K hK => ?_) | refine DG_nil (by kernel_rfl) (fun K hK => ?_)); simp only [↓Go.Sy.dsnE_some, ↓Go.Sy.dsnE_none, ↓Go.Sy.dsnE_nil, ↓Go.Sy.dsnO_snoc, ↓Go.Sy.dsnO_nil, ↓Go.Sy.nidAt_snoc, ↓Go.Sy.nidAt_nil, push_cast, Nat.reduceLeDiff, Nat.reduceSub, Nat.reduceBEq, Nat.reduceEqDiff, Nat.reduceAdd, Nat.reduceLT, ↓reduceIte, reduceCtorEq]; refine hK _ _ _ ?_; clear hK K) | apply DG_go | apply AL_nil | apply Thn_normal | apply Thn_ret | apply Thn_exit | apply Blk_normal | apply Blk_ret | apply Blk_here | (refine Blk_other rfl ?_) | apply AC_block | apply AC_exit | apply AC_skip | apply AC_ret)
  all_goals first
    | ((refine Ends.mk2 (by first | exact .inr rfl | exact .inl rfl) [0, 1, 2, 3, 4, 5, 7] ?_; simp -dsimp (disch := try exact vD) only [push_cast, simprocAttr, Tryd.f39, ha, hp]; (repeat refine aI ?_); try (first | exact vI | fail)); done)
    | trace_state
theorem dual_00S (hN : A.length = N) (hN2 : N < 2 ^ 40) (hj : j < N) (ha : assoc (knM kD K) [(j : Int) + 1 + 1] = none) (hp : putM (knM kD K2) [(j : Int) + 1 + 1] (.val (.int .i64 (r : Int))) = knM kD K3)
    (h1 : ACall Tryd.prog 39 (.val (.int .i64 (A.getD j default).hi) :: dlA z n A N q) (dl0 z n A N q K) 6 (.val (.int .i64 a)) (dl0 z n A N q K1))
    (h2 : ACall Tryd.prog 39 (.val (.int .i64 (A.getD j default).lo) :: dlA z n A N q) (dl0 z n A N q K1) 6 (.val (.int .i64 b)) (dlS z n A N q F2 k2 K2))
    (h3 : ACall Tryd.prog 40 [.pt 0 0, .val (.int .i64 (A.getD j default).v), .val (.int .i64 a), .val (.int .i64 b)] (bS F2 k2) 2 (.val (.int .i64 r)) (bS G k')) :
    ACall Tryd.prog 39 (.val (.int .i64 ((j : Int) + 1 + 1)) :: dlA z n A N q) (dl0 z n A N q K) 6 (.val (.int .i64 r)) (dlS z n A N q G k' K3) := by
  have hg : ¬ (j : Int) + 1 + 1 < 2 := by omega
  have h1 := PLift.up h1
  have h2 := PLift.up h2
  have h3 := PLift.up h3
  unfold dlA dl0 dlS at *
  unfold bS at h3
  refine ACall.enter Tryd.func39 rfl (by simp [Tryd.ntmps39]) (by simp) ?_; simp only [entry, idx, Tryd.ntmps39, List.length, List.map_cons, List.map_nil, List.append_nil, List.cons_append, List.nil_append, Nat.reduceAdd, Nat.zero_add, List.length_cons, List.length_nil]
  repeat' (first | apply AC_seq | apply AC_region_lit | ((first | refine AL_go rfl (fun K hK => ?_) | refine AL_go0 (fun K hK => ?_) | refine DG_runB [0, 1, 2] (fun K hK => ?_)); refine R_callFnG (f := 39) (dst := some 41) [0, 1, 2, 3, 4, 5] 6 false ?_; simp -dsimp (disch := try exact vD) only [push_cast, simprocAttr, hg, ha, sub12, tn12, fo_cells]; (repeat refine aI ?_); intro G hG; refine hG _ _ ?_; clear hG G; refine ⟨_, _, h2.down, ?_⟩; simp -dsimp (disch := try exact vD) only [push_cast, simprocAttr, hg, ha, sub12, tn12, fo_cells]; (repeat refine aI ?_); apply hK; clear hK K) | ((first | refine AL_go rfl (fun K hK => ?_) | refine AL_go0 (fun K hK => ?_) | refine DG_run (fun K hK => ?_)); (first | refine R_callFnG (f := 39) (dst := some 33) [0, 1, 2, 3, 4, 5] 6 false ?_ | refine R_callG (f := 40) [3, 4, 7] 2 false ?_); simp -dsimp (disch := try exact vD) only [push_cast, simprocAttr, hg, ha, sub12, tn12, fo_cells]; (repeat refine aI ?_); intro G hG; refine hG _ _ ?_; clear hG G; (first | refine ⟨_, _, h1.down, ?_⟩ | refine ⟨_, _, h3.down, ?_⟩); simp -dsimp (disch := try exact vD) only [push_cast, simprocAttr, hg, ha, sub12, tn12, fo_cells]; (repeat refine aI ?_); apply hK; clear hK K) | ((first | refine AL_go rfl (fun K hK => ?_) | refine AL_go0 (fun K hK => ?_) | refine DG_run (fun K hK => ?_)); (first | apply R_move | apply R_assign | apply Q_load | apply Q_loadAgg | apply Q_fieldAddr | apply Q_indexAddr | apply Q_indexArr | apply Q_extract | apply R_alloc | apply Q_store | apply Q_lookup | apply Q_lookupOk | apply Q_mapUpdate | apply Q_bin); simp -dsimp (disch := try exact vD) only [push_cast, simprocAttr, hg, ha, sub12, tn12, fo_cells]; (repeat refine aI ?_); apply hK; clear hK K) | ((first | refine AL_guard rfl rfl (fun K1 K2 h1 h2 => ?_) rfl | refine AC_cond_k (fun K1 K2 h1 h2 => ?_) | refine DG_guard rfl rfl (fun K1 K2 h1 h2 => ?_)); simp -dsimp (disch := try exact vD) only [push_cast, simprocAttr, hg, ha, sub12, tn12, fo_cells]; (first | (refine ⟨fun hc => ?_, fun hc => ?_⟩ <;> first | (exfalso; omega) | (exfalso; contradiction) | refine h1 ?_ | refine h2 ?_) | refine h1 ?_ | refine h2 ?_); all_goals clear h1 h2 K1 K2) | (refine AC_draw (id := 8) (by kernel_rfl) [⟨0, [], [35, 36, 37, 38, 39, 40, 41], [6, 7, 8], [], 0⟩, ⟨1, [], [34, 37, 38, 39, 40, 41], [6, 7, 8], [], 0⟩, ⟨2, [1], [34, 37, 38, 39, 40, 41], [6, 7, 8], [], 0⟩, ⟨3, [], [34, 35, 36, 38, 39, 40, 41], [6, 7, 8], [], 0⟩, ⟨4, [], [34, 35, 36, 37, 39, 40], [], [], 0⟩, ⟨5, [], [34, 35, 36, 37, 38], [], [], 0⟩, ⟨6, [5], [34, 35, 36, 37, 38], [], [], 0⟩, ⟨7, [4, 5, 6], [34, 35, 36, 37], [], [6, 7, 8], 1⟩, ⟨8, [0, 1, 2, 3, 4, 5, 6, 7], [], [], [6, 7, 10], 1⟩, ⟨9, [0, 1, 2, 3, 4, 5, 6, 7, 8], [], [], [], 0⟩] (by kernel_rfl) (by kernel_rfl) (by kernel_rfl) ?_) | ((first | refine DG_next' (by kernel_rfl) (fun K hK => ?_) | refine DG_nil (by kernel_rfl) (fun K hK => ?_)); simp only [↓Go.Sy.dsnE_some, ↓Go.Sy.dsnE_none, ↓Go.Sy.dsnE_nil, ↓Go.Sy.dsnO_snoc, ↓Go.Sy.dsnO_nil, ↓Go.Sy.nidAt_snoc, ↓Go.Sy.nidAt_nil, push_cast, Nat.reduceLeDiff, Nat.reduceSub, Nat.reduceBEq, Nat.reduceEqDiff, Nat.reduceAdd, Nat.reduceLT, ↓reduceIte, reduceCtorEq]; refine hK _ _ _ ?_; clear hK K) | apply DG_go | apply AL_nil | apply Thn_normal | apply Thn_ret | apply Thn_exit | apply Blk_normal | apply Blk_ret | apply Blk_here | (refine Blk_other rfl ?_) | apply AC_block | apply AC_exit | apply AC_skip | apply AC_ret)
  all_goals first
    | ((refine Ends.mk2 (by first | exact .inr rfl | exact .inl rfl) [0, 1, 2, 3, 4, 5, 8] ?_; simp -dsimp (disch := try exact vD) only [push_cast, simprocAttr, Tryd.f39, ha, hp]; (repeat refine aI ?_); try (first | exact vI | fail)); done)
    | trace_state
theorem dual_0SS (hN : A.length = N) (hN2 : N < 2 ^ 40) (hj : j < N) (ha : assoc (knM kD K) [(j : Int) + 1 + 1] = none) (hp : putM (knM kD K2) [(j : Int) + 1 + 1] (.val (.int .i64 (r : Int))) = knM kD K3)
    (h1 : ACall Tryd.prog 39 (.val (.int .i64 (A.getD j default).hi) :: dlA z n A N q) (dl0 z n A N q K) 6 (.val (.int .i64 a)) (dlS z n A N q F1 k1 K1))
    (h2 : ACall Tryd.prog 39 (.val (.int .i64 (A.getD j default).lo) :: dlA z n A N q) (dlS z n A N q F1 k1 K1) 6 (.val (.int .i64 b)) (dlS z n A N q F2 k2 K2))
    (h3 : ACall Tryd.prog 40 [.pt 0 0, .val (.int .i64 (A.getD j default).v), .val (.int .i64 a), .val (.int .i64 b)] (bS F2 k2) 2 (.val (.int .i64 r)) (bS G k')) :
    ACall Tryd.prog 39 (.val (.int .i64 ((j : Int) + 1 + 1)) :: dlA z n A N q) (dl0 z n A N q K) 6 (.val (.int .i64 r)) (dlS z n A N q G k' K3) := by
  have hg : ¬ (j : Int) + 1 + 1 < 2 := by omega
  have h1 := PLift.up h1
  have h2 := PLift.up h2
  have h3 := PLift.up h3
  unfold dlA dl0 dlS at *
  unfold bS at h3
  refine ACall.enter Tryd.func39 rfl (by simp [Tryd.ntmps39]) (by simp) ?_; simp only [entry, idx, Tryd.ntmps39, List.length, List.map_cons, List.map_nil, List.append_nil, List.cons_append, List.nil_append, Nat.reduceAdd, Nat.zero_add, List.length_cons, List.length_nil]
  repeat' (first | apply AC_seq | apply AC_region_lit | ((first | refine AL_go rfl (fun K hK => ?_) | refine AL_go0 (fun K hK => ?_) | refine DG_runB [0, 1, 2] (fun K hK => ?_)); refine R_callFnG (f := 39) (dst := some 41) [0, 1, 2, 3, 4, 5, 7] 6 false ?_; simp -dsimp (disch := try exact vD) only [push_cast, simprocAttr, hg, ha, sub12, tn12, fo_cells]; (repeat refine aI ?_); intro G hG; refine hG _ _ ?_; clear hG G; refine ⟨_, _, h2.down, ?_⟩; simp -dsimp (disch := try exact vD) only [push_cast, simprocAttr, hg, ha, sub12, tn12, fo_cells]; (repeat refine aI ?_); apply hK; clear hK K) | ((first | refine AL_go rfl (fun K hK => ?_) | refine AL_go0 (fun K hK => ?_) | refine DG_run (fun K hK => ?_)); (first | refine R_callFnG (f := 39) (dst := some 33) [0, 1, 2, 3, 4, 5] 6 false ?_ | refine R_callG (f := 40) [3, 4, 8] 2 false ?_); simp -dsimp (disch := try exact vD) only [push_cast, simprocAttr, hg, ha, sub12, tn12, fo_cells]; (repeat refine aI ?_); intro G hG; refine hG _ _ ?_; clear hG G; (first | refine ⟨_, _, h1.down, ?_⟩ | refine ⟨_, _, h3.down, ?_⟩); simp -dsimp (disch := try exact vD) only [push_cast, simprocAttr, hg, ha, sub12, tn12, fo_cells]; (repeat refine aI ?_); apply hK; clear hK K) | ((first | refine AL_go rfl (fun K hK => ?_) | refine AL_go0 (fun K hK => ?_) | refine DG_run (fun K hK => ?_)); (first | apply R_move | apply R_assign | apply Q_load | apply Q_loadAgg | apply Q_fieldAddr | apply Q_indexAddr | apply Q_indexArr | apply Q_extract | apply R_alloc | apply Q_store | apply Q_lookup | apply Q_lookupOk | apply Q_mapUpdate | apply Q_bin); simp -dsimp (disch := try exact vD) only [push_cast, simprocAttr, hg, ha, sub12, tn12, fo_cells]; (repeat refine aI ?_); apply hK; clear hK K) | ((first | refine AL_guard rfl rfl (fun K1 K2 h1 h2 => ?_) rfl | refine AC_cond_k (fun K1 K2 h1 h2 => ?_) | refine DG_guard rfl rfl (fun K1 K2 h1 h2 => ?_)); simp -dsimp (disch := try exact vD) only [push_cast, simprocAttr, hg, ha, sub12, tn12, fo_cells]; (first | (refine ⟨fun hc => ?_, fun hc => ?_⟩ <;> first | (exfalso; omega) | (exfalso; contradiction) | refine h1 ?_ | refine h2 ?_) | refine h1 ?_ | refine h2 ?_); all_goals clear h1 h2 K1 K2) | (refine AC_draw (id := 8) (by kernel_rfl) [⟨0, [], [35, 36, 37, 38, 39, 40, 41], [6, 7, 8, 10], [], 0⟩, ⟨1, [], [34, 37, 38, 39, 40, 41], [6, 7, 8, 10], [], 0⟩, ⟨2, [1], [34, 37, 38, 39, 40, 41], [6, 7, 8, 10], [], 0⟩, ⟨3, [], [34, 35, 36, 38, 39, 40, 41], [6, 7, 8, 10], [], 0⟩, ⟨4, [], [34, 35, 36, 37, 39, 40], [], [], 0⟩, ⟨5, [], [34, 35, 36, 37, 38], [], [], 0⟩, ⟨6, [5], [34, 35, 36, 37, 38], [], [], 0⟩, ⟨7, [4, 5, 6], [34, 35, 36, 37], [], [6, 7, 8, 10], 1⟩, ⟨8, [0, 1, 2, 3, 4, 5, 6, 7], [], [], [6, 7, 11], 1⟩, ⟨9, [0, 1, 2, 3, 4, 5, 6, 7, 8], [], [], [], 0⟩] (by kernel_rfl) (by kernel_rfl) (by kernel_rfl) ?_) | ((first | refine DG_next' (by kernel_rfl) (fun K hK => ?_) | refine DG_nil (by kernel_rfl) (fun K hK => ?_)); simp only [↓Go.Sy.dsnE_some, ↓Go.Sy.dsnE_none, ↓Go.Sy.dsnE_nil, ↓Go.Sy.dsnO_snoc, ↓Go.Sy.dsnO_nil, ↓Go.Sy.nidAt_snoc, ↓Go.Sy.nidAt_nil, push_cast, Nat.reduceLeDiff, Nat.reduceSub, Nat.reduceBEq, Nat.reduceEqDiff, Nat.reduceAdd, Nat.reduceLT, ↓reduceIte, reduceCtorEq]; refine hK _ _ _ ?_; clear hK K) | apply DG_go | apply AL_nil | apply Thn_normal | apply Thn_ret | apply Thn_exit | apply Blk_normal | apply Blk_ret | apply Blk_here | (refine Blk_other rfl ?_) | apply AC_block | apply AC_exit | apply AC_skip | apply AC_ret)
  all_goals first
    | ((refine Ends.mk2 (by first | exact .inr rfl | exact .inl rfl) [0, 1, 2, 3, 4, 5, 9] ?_; simp -dsimp (disch := try exact vD) only [push_cast, simprocAttr, Tryd.f39, ha, hp]; (repeat refine aI ?_); try (first | exact vI | fail)); done)
    | trace_state
theorem dual_SSS (hN : A.length = N) (hN2 : N < 2 ^ 40) (hj : j < N) (ha : assoc (knM kD K) [(j : Int) + 1 + 1] = none) (hp : putM (knM kD K2) [(j : Int) + 1 + 1] (.val (.int .i64 (r : Int))) = knM kD K3)
    (h1 : ACall Tryd.prog 39 (.val (.int .i64 (A.getD j default).hi) :: dlA z n A N q) (dlS z n A N q F k K) 6 (.val (.int .i64 a)) (dlS z n A N q F1 k1 K1))
    (h2 : ACall Tryd.prog 39 (.val (.int .i64 (A.getD j default).lo) :: dlA z n A N q) (dlS z n A N q F1 k1 K1) 6 (.val (.int .i64 b)) (dlS z n A N q F2 k2 K2))
    (h3 : ACall Tryd.prog 40 [.pt 0 0, .val (.int .i64 (A.getD j default).v), .val (.int .i64 a), .val (.int .i64 b)] (bS F2 k2) 2 (.val (.int .i64 r)) (bS G k')) :
    ACall Tryd.prog 39 (.val (.int .i64 ((j : Int) + 1 + 1)) :: dlA z n A N q) (dlS z n A N q F k K) 6 (.val (.int .i64 r)) (dlS z n A N q G k' K3) := by
  have hg : ¬ (j : Int) + 1 + 1 < 2 := by omega
  have h1 := PLift.up h1
  have h2 := PLift.up h2
  have h3 := PLift.up h3
  unfold dlA dlS at *
  unfold bS at h3
  refine ACall.enter Tryd.func39 rfl (by simp [Tryd.ntmps39]) (by simp) ?_; simp only [entry, idx, Tryd.ntmps39, List.length, List.map_cons, List.map_nil, List.append_nil, List.cons_append, List.nil_append, Nat.reduceAdd, Nat.zero_add, List.length_cons, List.length_nil]
  repeat' (first | apply AC_seq | apply AC_region_lit | ((first | refine AL_go rfl (fun K hK => ?_) | refine AL_go0 (fun K hK => ?_) | refine DG_runB [0, 1, 2] (fun K hK => ?_)); refine R_callFnG (f := 39) (dst := some 41) [0, 1, 2, 3, 4, 5, 8] 6 false ?_; simp -dsimp (disch := try exact vD) only [push_cast, simprocAttr, hg, ha, sub12, tn12, fo_cells]; (repeat refine aI ?_); intro G hG; refine hG _ _ ?_; clear hG G; refine ⟨_, _, h2.down, ?_⟩; simp -dsimp (disch := try exact vD) only [push_cast, simprocAttr, hg, ha, sub12, tn12, fo_cells]; (repeat refine aI ?_); apply hK; clear hK K) | ((first | refine AL_go rfl (fun K hK => ?_) | refine AL_go0 (fun K hK => ?_) | refine DG_run (fun K hK => ?_)); (first | refine R_callFnG (f := 39) (dst := some 33) [0, 1, 2, 3, 4, 5, 6] 6 false ?_ | refine R_callG (f := 40) [3, 4, 9] 2 false ?_); simp -dsimp (disch := try exact vD) only [push_cast, simprocAttr, hg, ha, sub12, tn12, fo_cells]; (repeat refine aI ?_); intro G hG; refine hG _ _ ?_; clear hG G; (first | refine ⟨_, _, h1.down, ?_⟩ | refine ⟨_, _, h3.down, ?_⟩); simp -dsimp (disch := try exact vD) only [push_cast, simprocAttr, hg, ha, sub12, tn12, fo_cells]; (repeat refine aI ?_); apply hK; clear hK K) | ((first | refine AL_go rfl (fun K hK => ?_) | refine AL_go0 (fun K hK => ?_) | refine DG_run (fun K hK => ?_)); (first | apply R_move | apply R_assign | apply Q_load | apply Q_loadAgg | apply Q_fieldAddr | apply Q_indexAddr | apply Q_indexArr | apply Q_extract | apply R_alloc | apply Q_store | apply Q_lookup | apply Q_lookupOk | apply Q_mapUpdate | apply Q_bin); simp -dsimp (disch := try exact vD) only [push_cast, simprocAttr, hg, ha, sub12, tn12, fo_cells]; (repeat refine aI ?_); apply hK; clear hK K) | ((first | refine AL_guard rfl rfl (fun K1 K2 h1 h2 => ?_) rfl | refine AC_cond_k (fun K1 K2 h1 h2 => ?_) | refine DG_guard rfl rfl (fun K1 K2 h1 h2 => ?_)); simp -dsimp (disch := try exact vD) only [push_cast, simprocAttr, hg, ha, sub12, tn12, fo_cells]; (first | (refine ⟨fun hc => ?_, fun hc => ?_⟩ <;> first | (exfalso; omega) | (exfalso; contradiction) | refine h1 ?_ | refine h2 ?_) | refine h1 ?_ | refine h2 ?_); all_goals clear h1 h2 K1 K2) | (refine AC_draw (id := 8) (by kernel_rfl) [⟨0, [], [35, 36, 37, 38, 39, 40, 41], [6, 7, 8, 11], [], 0⟩, ⟨1, [], [34, 37, 38, 39, 40, 41], [6, 7, 8, 11], [], 0⟩, ⟨2, [1], [34, 37, 38, 39, 40, 41], [6, 7, 8, 11], [], 0⟩, ⟨3, [], [34, 35, 36, 38, 39, 40, 41], [6, 7, 8, 11], [], 0⟩, ⟨4, [], [34, 35, 36, 37, 39, 40], [], [], 0⟩, ⟨5, [], [34, 35, 36, 37, 38], [], [], 0⟩, ⟨6, [5], [34, 35, 36, 37, 38], [], [], 0⟩, ⟨7, [4, 5, 6], [34, 35, 36, 37], [], [6, 7, 8, 11], 1⟩, ⟨8, [0, 1, 2, 3, 4, 5, 6, 7], [], [], [6, 7, 12], 1⟩, ⟨9, [0, 1, 2, 3, 4, 5, 6, 7, 8], [], [], [], 0⟩] (by kernel_rfl) (by kernel_rfl) (by kernel_rfl) ?_) | ((first | refine DG_next' (by kernel_rfl) (fun K hK => ?_) | refine DG_nil (by kernel_rfl) (fun K hK => ?_)); simp only [↓Go.Sy.dsnE_some, ↓Go.Sy.dsnE_none, ↓Go.Sy.dsnE_nil, ↓Go.Sy.dsnO_snoc, ↓Go.Sy.dsnO_nil, ↓Go.Sy.nidAt_snoc, ↓Go.Sy.nidAt_nil, push_cast, Nat.reduceLeDiff, Nat.reduceSub, Nat.reduceBEq, Nat.reduceEqDiff, Nat.reduceAdd, Nat.reduceLT, ↓reduceIte, reduceCtorEq]; refine hK _ _ _ ?_; clear hK K) | apply DG_go | apply AL_nil | apply Thn_normal | apply Thn_ret | apply Thn_exit | apply Blk_normal | apply Blk_ret | apply Blk_here | (refine Blk_other rfl ?_) | apply AC_block | apply AC_exit | apply AC_skip | apply AC_ret)
  all_goals first
    | ((refine Ends.mk2 (by first | exact .inr rfl | exact .inl rfl) [0, 1, 2, 3, 4, 5, 10] ?_; simp -dsimp (disch := try exact vD) only [push_cast, simprocAttr, Tryd.f39, ha, hp]; (repeat refine aI ?_); try (first | exact vI | fail)); done)
    | trace_state
def oD (z : Bool) (n : Nat) (A : List Fo) (N : Nat) (q : Int) (S : List Fo × List (Nat × Nat)) : List AObj := if S.1 = [] then dl0 z n A N q S.2 else dlS z n A N q S.1 S.1.length S.2
theorem oD_0 {K : List (Nat × Nat)} : oD z n A N q ([], K) = dl0 z n A N q K := rfl
theorem oD_S {K : List (Nat × Nat)} (h : ¬ F = []) : oD z n A N q (F, K) = dlS z n A N q F F.length K := if_neg h
theorem dgrow_ok (hA : Go.Dg.Good n A) (hN : A.length = N) (hN2 : N < 2 ^ 40) (hn : n ≤ 16) (hr : r < N + 2) : ACall Tryd.prog 39 (.val (.int .i64 r) :: dlA z n A N q) (oD z n A N q ([], [])) 6 (.val (.int .i64 ((mgr (dualS A n) (r + 1) r ([], [])).2 : Nat))) (oD z n A N q (mgr (dualS A n) (r + 1) r ([], [])).1) := by
  have hp : 2 ^ n ≤ 2 ^ 16 := Nat.pow_le_pow_right (by omega) hn
  have hpl : 2 ^ (n - (dualS A n).lev r) ≤ 2 ^ 16 := Nat.pow_le_pow_right (by omega) (by omega)
  have hge : ∀ x, (dualS A n).term x = none → ¬ x < 2 := fun x h hc => by simp [dualS, hc] at h
  refine mgr_calls (dualS_ok hA) (fun x S S' c => ACall Tryd.prog 39 (.val (.int .i64 x) :: dlA z n A N q) (oD z n A N q S) 6 (.val (.int .i64 (c : Nat))) (oD z n A N q S')) ?_ ?_ ?_ (r + 1) r [] [] (by rw [hN]; exact hr) (Nat.lt_succ_self _) Good.nil (fun p hp => by cases hp) (by rw [List.length_nil]; omega)
  · rintro x c ⟨F, K⟩ hx ht
    have h2 : x < 2 := by
      by_cases h2 : x < 2
      · exact h2
      · simp [dualS, h2] at ht
    have hc : 1 - x = c := by simpa [dualS, h2] using ht
    subst hc
    by_cases hF : F = []
    · subst hF; exact dual_lt h2
    · rw [oD_S hF]; exact dual_ltS h2
  · rintro x w ⟨F, K⟩ hx ht hl
    have h2 := hge x ht
    obtain ⟨j, rfl⟩ : ∃ j, x = j + 2 := ⟨x - 2, by omega⟩
    have ha := knM_some kD_inj hl
    have e : ((j + 2 : Nat) : Int) = (j : Int) + 1 + 1 := by omega
    unfold kD at ha
    rw [e] at ha
    rw [e]
    by_cases hF : F = []
    · subst hF; exact dual_hit ha
    · rw [oD_S hF]; exact dual_hitS ha
  · rintro x ⟨F, K⟩ ⟨F1, K1⟩ ⟨F2, K2⟩ a b hx ht hl hl2 hlen n0 n1 h1 h2
    have h2' := hge x ht
    obtain ⟨j, rfl⟩ : ∃ j, x = j + 2 := ⟨x - 2, by omega⟩
    have hj : j < N := by omega
    have e : ((j + 2 : Nat) : Int) = (j : Int) + 1 + 1 := by omega
    have ha := knM_none kD_inj hl
    have hlev : (dualS A n).lev (j + 2) = (A.getD j default).v := by show srvF n A (j + 2) = _; unfold srvF; rw [if_neg (by omega), Nat.add_sub_cancel]
    dsimp only at hl2 hlen n0 n1 h1 h2 ⊢
    have hp := knM_put (w := (mkF F2 (A.getD j default).v a b).2) kD_inj hl2
    have ek0 : (dualS A n).k0 (j + 2) = (A.getD j default).hi := by show (A.getD (j + 2 - 2) default).hi = _; rw [Nat.add_sub_cancel]
    have ek1 : (dualS A n).k1 (j + 2) = (A.getD j default).lo := by show (A.getD (j + 2 - 2) default).lo = _; rw [Nat.add_sub_cancel]
    rw [ek0] at h1; rw [ek1] at h2
    rw [hlev]
    unfold kD at ha hp
    rw [e] at ha hp ⊢
    have h3 := fork_ok (F := F2) (v := (A.getD j default).v) (lo := a) (hi := b) (by omega)
    have p3 : F2 ≠ [] → (mkF F2 (A.getD j default).v a b).1 ≠ [] := fun h => mkF_ne h
    have p0 : F2 = [] → (mkF F2 (A.getD j default).v a b).1 = [] → a = b := fun h h4 => by
      subst h
      unfold mkF at h4
      split at h4
      · assumption
      · simp at h4
    generalize hK3 : K2 ++ [(j + 2, (mkF F2 (A.getD j default).v a b).2)] = K3 at hp ⊢
    clear hK3
    by_cases hF2 : F2 = []
    · have hF1 : F1 = [] := Decidable.not_not.1 fun h => n1 h hF2
      have hF : F = [] := Decidable.not_not.1 fun h => n0 h hF1
      subst hF2; subst hF1; subst hF
      by_cases hG : (mkF [] (A.getD j default).v a b).1 = []
      · have := p0 rfl hG
        subst this
        rw [mkF_eq] at hp ⊢
        exact dual_000 hN hN2 hj ha hp h1 h2
      · rw [bF_S hG] at h3
        rw [oD_S hG]
        exact dual_00n hN hN2 hj ha hp h1 h2 h3
    · have hG := p3 hF2
      rw [bF_S hF2, bF_S hG] at h3
      rw [oD_S hG]
      rw [oD_S hF2] at h2
      by_cases hF1 : F1 = []
      · have hF : F = [] := Decidable.not_not.1 fun h => n0 h hF1
        subst hF1; subst hF
        exact dual_00S hN hN2 hj ha hp h1 h2 h3
      · rw [oD_S hF1] at h1 h2
        by_cases hF : F = []
        · subst hF; exact dual_0SS hN hN2 hj ha hp h1 h2 h3
        · rw [oD_S hF] at h1 ⊢
          exact dual_SSS hN hN2 hj ha hp h1 h2 h3
theorem dual_w0 (h : DOk n A r) (hN : A.length = N) (h1 : ACall Tryd.prog 39 (.val (.int .i64 r) :: dlA z n A N r) (dl0 z n A N r []) 6 (.val (.int .i64 b)) (dl0 z n A N r K)) : ACall Tryd.prog 14 [.agg [.val (.int .i64 n), .isl z (cR A) N, .val (.int .i64 r)]] [] 0 (.tup [dgV true n [] b, .val (.int .i64 0)]) [] := by
  have hv := PLift.up (valid_0 (z := z) h hN)
  have h1 := PLift.up h1
  have hnb := PLift.up newB_ok
  have hd := PLift.up (done_0 (n := n) (r := b))
  clear h
  unfold dlA dl0 at h1
  rw [knM_nil] at h1
  unfold b0 at hd
  unfold dgV
  refine ACall.enter Tryd.func14 rfl (by simp [Tryd.ntmps14]) (by simp) ?_; simp only [entry, idx, Tryd.ntmps14, List.length, List.map_cons, List.map_nil, List.append_nil, List.cons_append, List.nil_append, Nat.reduceAdd, Nat.zero_add, List.length_cons, List.length_nil]
  repeat' (first | ((first | refine AC_frzS (r := 7) 0 ?_ | refine AC_frzR (r := 7) 0 ?_); simp -dsimp (disch := try exact vD) only [push_cast, simprocAttr]; (repeat refine aI ?_); intro K hK; refine hK _ _ ?_; clear hK K) | apply AC_seq | apply AC_region_lit | ((first | refine AL_go rfl (fun K hK => ?_) | refine AL_go0 (fun K hK => ?_) | refine DG_runB [7, 5, 6] (fun K hK => ?_)); refine R_callFnG (f := 39) (dst := some 23) [7, 5, 6, 2, 3, 4] 6 false ?_; simp -dsimp (disch := try exact vD) only [push_cast, simprocAttr]; (repeat refine aI ?_); intro G hG; refine hG _ _ ?_; clear hG G; refine ⟨_, _, h1.down, ?_⟩; simp -dsimp (disch := try exact vD) only [push_cast, simprocAttr]; (repeat refine aI ?_); apply hK; clear hK K) | ((first | refine AL_go rfl (fun K hK => ?_) | refine AL_go0 (fun K hK => ?_) | refine DG_run (fun K hK => ?_)); (first | refine R_callG (f := 31) [] 0 false ?_ | refine R_callG (f := 38) [] 0 false ?_ | refine R_callG (f := 41) [2, 3] 2 false ?_); simp -dsimp (disch := try exact vD) only [push_cast, simprocAttr]; (repeat refine aI ?_); intro G hG; refine hG _ _ ?_; clear hG G; (first | refine ⟨_, _, hv.down, ?_⟩ | refine ⟨_, _, hnb.down, ?_⟩ | refine ⟨_, _, hd.down, ?_⟩); simp -dsimp (disch := try exact vD) only [push_cast, simprocAttr]; (repeat refine aI ?_); apply hK; clear hK K) | ((first | refine AL_go rfl (fun K hK => ?_) | refine AL_go0 (fun K hK => ?_) | refine DG_run (fun K hK => ?_)); (first | apply R_move | apply R_assign | apply Q_load | apply Q_loadAgg | apply Q_fieldAddr | apply Q_box | apply R_alloc | apply Q_store | apply Q_build | apply Q_buildArr | apply Q_makeFunc | apply Q_makeMap | apply Q_eqAgg | apply Q_neqAgg | apply Q_neqSelf | apply Q_bin); simp -dsimp (disch := try exact vD) only [push_cast, simprocAttr]; (repeat refine aI ?_); apply hK; clear hK K) | ((first | refine AL_guard rfl rfl (fun K1 K2 h1 h2 => ?_) rfl | refine AC_cond_k (fun K1 K2 h1 h2 => ?_) | refine DG_guard rfl rfl (fun K1 K2 h1 h2 => ?_)); simp -dsimp (disch := try exact vD) only [push_cast, simprocAttr]; (first | (refine ⟨fun hc => ?_, fun hc => ?_⟩ <;> first | (exfalso; omega) | (exfalso; contradiction) | refine h1 ?_ | refine h2 ?_) | refine h1 ?_ | refine h2 ?_); all_goals clear h1 h2 K1 K2) | (refine AC_draw (id := 7) (by kernel_rfl) [⟨0, [], [18, 19, 20, 21, 22, 23], [5, 6, 7], [], 0⟩, ⟨1, [], [17, 20, 21, 22, 23], [5, 6, 7], [], 0⟩, ⟨2, [1], [17, 20, 21, 22, 23], [5, 6, 7], [], 0⟩, ⟨3, [], [17, 18, 19, 21, 22], [], [], 0⟩, ⟨4, [], [17, 18, 19, 20], [], [], 0⟩, ⟨5, [4], [17, 18, 19, 20], [], [], 0⟩, ⟨6, [3, 4, 5], [17, 18, 19], [], [5, 6, 7], 0⟩, ⟨7, [0, 1, 2, 3, 4, 5, 6], [], [], [5, 6], 0⟩, ⟨8, [0, 1, 2, 3, 4, 5, 6, 7], [], [], [2], 0⟩, ⟨9, [0, 1, 2, 3, 4, 5, 6, 7, 8], [], [], [], 0⟩] (by kernel_rfl) (by kernel_rfl) (by kernel_rfl) ?_) | ((first | refine DG_next' (by kernel_rfl) (fun K hK => ?_) | refine DG_nil (by kernel_rfl) (fun K hK => ?_)); simp only [↓Go.Sy.dsnE_some, ↓Go.Sy.dsnE_none, ↓Go.Sy.dsnE_nil, ↓Go.Sy.dsnO_snoc, ↓Go.Sy.dsnO_nil, ↓Go.Sy.nidAt_snoc, ↓Go.Sy.nidAt_nil, push_cast, Nat.reduceLeDiff, Nat.reduceSub, Nat.reduceBEq, Nat.reduceEqDiff, Nat.reduceAdd, Nat.reduceLT, ↓reduceIte, reduceCtorEq]; refine hK _ _ _ ?_; clear hK K) | apply DG_go | apply AL_nil | apply Thn_normal | apply Thn_ret | apply Thn_exit | apply Blk_normal | apply Blk_ret | apply Blk_here | (refine Blk_other rfl ?_) | apply AC_block | apply AC_exit | apply AC_skip | apply AC_ret)
  all_goals first
    | ((refine Ends.mk2 (by first | exact .inr rfl | exact .inl rfl) [] ?_; simp -dsimp (disch := try exact vD) only [push_cast, simprocAttr, Tryd.f14, cR_nil, List.length_nil]; (repeat refine aI ?_); try (first | exact vI | fail)); done)
    | trace_state
theorem dual_wS (h : DOk n A r) (hN : A.length = N) (hF : F.length = k) (h1 : ACall Tryd.prog 39 (.val (.int .i64 r) :: dlA z n A N r) (dl0 z n A N r []) 6 (.val (.int .i64 b)) (dlS z n A N r F k K)) : ACall Tryd.prog 14 [.agg [.val (.int .i64 n), .isl z (cR A) N, .val (.int .i64 r)]] [] 0 (.tup [dgV false n F b, .val (.int .i64 0)]) [] := by
  have hv := PLift.up (valid_0 (z := z) h hN)
  have h1 := PLift.up h1
  have hnb := PLift.up newB_ok
  have hd := PLift.up (done_S (F := F) (k := k) (n := n) (r := b))
  have htk : (cR F).take (k * 3) = cR F := by rw [← hF, ← cR_len]; exact List.take_length
  clear h
  unfold dlA dl0 dlS at h1
  rw [knM_nil] at h1
  unfold bS at hd
  unfold dgV
  refine ACall.enter Tryd.func14 rfl (by simp [Tryd.ntmps14]) (by simp) ?_; simp only [entry, idx, Tryd.ntmps14, List.length, List.map_cons, List.map_nil, List.append_nil, List.cons_append, List.nil_append, Nat.reduceAdd, Nat.zero_add, List.length_cons, List.length_nil]
  repeat' (first | ((first | refine AC_frzS (r := 7) 0 ?_ | refine AC_frzR (r := 7) 0 ?_); simp -dsimp (disch := try exact vD) only [push_cast, simprocAttr]; (repeat refine aI ?_); intro K hK; refine hK _ _ ?_; clear hK K) | apply AC_seq | apply AC_region_lit | ((first | refine AL_go rfl (fun K hK => ?_) | refine AL_go0 (fun K hK => ?_) | refine DG_runB [7, 5, 6] (fun K hK => ?_)); refine R_callFnG (f := 39) (dst := some 23) [7, 5, 6, 2, 3, 4] 6 false ?_; simp -dsimp (disch := try exact vD) only [push_cast, simprocAttr]; (repeat refine aI ?_); intro G hG; refine hG _ _ ?_; clear hG G; refine ⟨_, _, h1.down, ?_⟩; simp -dsimp (disch := try exact vD) only [push_cast, simprocAttr]; (repeat refine aI ?_); apply hK; clear hK K) | ((first | refine AL_go rfl (fun K hK => ?_) | refine AL_go0 (fun K hK => ?_) | refine DG_run (fun K hK => ?_)); (first | refine R_callG (f := 31) [] 0 false ?_ | refine R_callG (f := 38) [] 0 false ?_ | refine R_callG (f := 41) [2, 3, 8] 3 false ?_); simp -dsimp (disch := try exact vD) only [push_cast, simprocAttr]; (repeat refine aI ?_); intro G hG; refine hG _ _ ?_; clear hG G; (first | refine ⟨_, _, hv.down, ?_⟩ | refine ⟨_, _, hnb.down, ?_⟩ | refine ⟨_, _, hd.down, ?_⟩); simp -dsimp (disch := try exact vD) only [push_cast, simprocAttr]; (repeat refine aI ?_); apply hK; clear hK K) | ((first | refine AL_go rfl (fun K hK => ?_) | refine AL_go0 (fun K hK => ?_) | refine DG_run (fun K hK => ?_)); (first | apply R_move | apply R_assign | apply Q_load | apply Q_loadAgg | apply Q_fieldAddr | apply Q_box | apply R_alloc | apply Q_store | apply Q_build | apply Q_buildArr | apply Q_makeFunc | apply Q_makeMap | apply Q_eqAgg | apply Q_neqAgg | apply Q_neqSelf | apply Q_bin); simp -dsimp (disch := try exact vD) only [push_cast, simprocAttr]; (repeat refine aI ?_); apply hK; clear hK K) | ((first | refine AL_guard rfl rfl (fun K1 K2 h1 h2 => ?_) rfl | refine AC_cond_k (fun K1 K2 h1 h2 => ?_) | refine DG_guard rfl rfl (fun K1 K2 h1 h2 => ?_)); simp -dsimp (disch := try exact vD) only [push_cast, simprocAttr]; (first | (refine ⟨fun hc => ?_, fun hc => ?_⟩ <;> first | (exfalso; omega) | (exfalso; contradiction) | refine h1 ?_ | refine h2 ?_) | refine h1 ?_ | refine h2 ?_); all_goals clear h1 h2 K1 K2) | (refine AC_draw (id := 7) (by kernel_rfl) [⟨0, [], [18, 19, 20, 21, 22, 23], [5, 6, 7], [], 0⟩, ⟨1, [], [17, 20, 21, 22, 23], [5, 6, 7], [], 0⟩, ⟨2, [1], [17, 20, 21, 22, 23], [5, 6, 7], [], 0⟩, ⟨3, [], [17, 18, 19, 21, 22], [], [], 0⟩, ⟨4, [], [17, 18, 19, 20], [], [], 0⟩, ⟨5, [4], [17, 18, 19, 20], [], [], 0⟩, ⟨6, [3, 4, 5], [17, 18, 19], [], [5, 6, 7], 1⟩, ⟨7, [0, 1, 2, 3, 4, 5, 6], [], [], [5, 6, 11], 0⟩, ⟨8, [0, 1, 2, 3, 4, 5, 6, 7], [], [], [2], 0⟩, ⟨9, [0, 1, 2, 3, 4, 5, 6, 7, 8], [], [], [], 0⟩] (by kernel_rfl) (by kernel_rfl) (by kernel_rfl) ?_) | ((first | refine DG_next' (by kernel_rfl) (fun K hK => ?_) | refine DG_nil (by kernel_rfl) (fun K hK => ?_)); simp only [↓Go.Sy.dsnE_some, ↓Go.Sy.dsnE_none, ↓Go.Sy.dsnE_nil, ↓Go.Sy.dsnO_snoc, ↓Go.Sy.dsnO_nil, ↓Go.Sy.nidAt_snoc, ↓Go.Sy.nidAt_nil, push_cast, Nat.reduceLeDiff, Nat.reduceSub, Nat.reduceBEq, Nat.reduceEqDiff, Nat.reduceAdd, Nat.reduceLT, ↓reduceIte, reduceCtorEq]; refine hK _ _ _ ?_; clear hK K) | apply DG_go | apply AL_nil | apply Thn_normal | apply Thn_ret | apply Thn_exit | apply Blk_normal | apply Blk_ret | apply Blk_here | (refine Blk_other rfl ?_) | apply AC_block | apply AC_exit | apply AC_skip | apply AC_ret)
  all_goals first
    | (((refine Ends.frz 8 ?_; simp -dsimp (disch := try exact vD) only [push_cast, simprocAttr, Tryd.f14, hF, htk]; (repeat refine aI ?_); intro K hK; refine hK _ _ ?_; clear hK K); refine Ends.mk2 (by first | exact .inr rfl | exact .inl rfl) [] ?_; simp -dsimp (disch := try exact vD) only [push_cast, simprocAttr, Tryd.f14, hF, htk]; (repeat refine aI ?_); try (first | exact vI | fail)); done)
    | trace_state
theorem dual_ok (h : DOk n A r) : ACall Tryd.prog 14 [rgV z n (A.map fk) r] [] 0 (.tup [dgV ((fromT n fun t => !valN A (cpl n t) r).1.length == 0) n (fromT n fun t => !valN A (cpl n t) r).1 (fromT n fun t => !valN A (cpl n t) r).2, .val (.int .i64 0)]) [] := by
  have hg := dgrow_ok (z := z) (q := r) h.good rfl (by have := h.few; omega) (by have := h.n12; omega) h.lt
  have hm := mgr_top (dualS_ok h.good) (x := r) (k := r + 1) h.lt (Nat.lt_succ_self _)
  have e : (fun t => !valN A (cpl n t) r) = (dualS A n).φ r := rfl
  rw [e, hm]
  rw [← rgV_dg]
  unfold dgV
  generalize mgr (dualS A n) (r + 1) r ([], []) = R at hg
  obtain ⟨⟨F, K⟩, b⟩ := R
  dsimp only at hg ⊢
  rw [oD_0] at hg
  by_cases hF : F = []
  · subst hF; exact dual_w0 h rfl hg
  · rw [oD_S hF] at hg
    have hb : (F.length == 0) = false := by
      have := List.length_pos_iff.2 hF
      simp; omega
    rw [hb]
    exact dual_wS h rfl rfl hg
end Go.Proofs.YtabafldpnkjboaaDoor
