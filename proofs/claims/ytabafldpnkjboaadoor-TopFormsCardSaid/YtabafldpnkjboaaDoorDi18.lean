/- Families: Valid of both sides, Support. No condition. -/
import Derived.Test.YtabafldpnkjboaaDoorDi17
set_option linter.unusedVariables false
set_option linter.unusedSectionVars false
set_option linter.unusedSimpArgs false
set_option maxHeartbeats 4000000
set_option maxRecDepth 20000
namespace Go.Proofs.YtabafldpnkjboaaDoor
open Go Go.Sy Go.Bp Go.Dg
attribute [local irreducible] AO AL AC OpT ACall Ends DGo DRun Thn Blk Nxt
variable {n N M k i m r a b j w u v s q x y : Nat} {z : Bool} {xs : List Nat} {e1 : Int}
theorem add1sub (x : Int) : x + 1 - 1 = x := by omega
theorem bit_hi : ∀ i, i < 16 → bit 61440 i = decide (12 ≤ i) := by decide
theorem out_eq (x : Nat) : (sand x (uN 61440) % 65536 = 0) = (x % 65536 < 4096) := by
  apply propext
  rw [show uN 61440 = 61440 from rfl]
  constructor
  · intro h
    refine bits_lt (n := 12) fun i hi => ?_
    by_cases hc : 12 ≤ i
    · have hi6 := bit_lt hi
      have h0 : bit (sand x 61440) i = bit 0 i := ext_bit.1 (by rw [h]) i hi6
      rw [bit_sand, hi, bit_hi i hi6, decide_eq_true hc, bit_0] at h0
      cases h0
    · omega
  · intro h
    have : sand x 61440 % 65536 = 0 % 65536 := ext_bit.2 fun i hi => by
      rw [bit_sand, bit_hi i hi, bit_0]
      by_cases hc : 12 ≤ i
      · have hp : 2 ^ 12 ≤ 2 ^ i := Nat.pow_le_pow_right (by omega) hc
        have : bit x i = false := by unfold bit; exact Nat.testBit_lt_two_pow (by omega)
        rw [this]; rfl
      · rw [decide_eq_false hc, Bool.and_false]
    exact this
def fe (xs : List Nat) : Nat → Nat → Int
  | 0, _ => 0
  | m + 1, i => if ¬ xs.getD i default % 65536 < 4096 then 7 else if 0 < i ∧ bef (xs.getD (i - 1) default) (xs.getD i default) = false then 1 else fe xs m (i + 1)
theorem fe_r (h : ¬ xs.getD i default % 65536 < 4096) : fe xs (m + 1) i = 7 := by unfold fe; rw [if_pos h]
theorem fe_b (h : xs.getD i default % 65536 < 4096) (hi : 0 < i) (hb : bef (xs.getD (i - 1) default) (xs.getD i default) = false) : fe xs (m + 1) i = 1 := by
  unfold fe; rw [if_neg (fun h2 => h2 h), if_pos ⟨hi, hb⟩]
theorem fe_n (h : xs.getD i default % 65536 < 4096) (hb : 0 < i → bef (xs.getD (i - 1) default) (xs.getD i default) = true) : fe xs (m + 1) i = fe xs m (i + 1) := by
  conv => lhs; unfold fe
  rw [if_neg (fun h2 => h2 h), if_neg (fun h2 => by rw [hb h2.1] at h2; cases h2.2)]
def famB (xs : List Nat) : Bool := (List.range xs.length).any fun i => hasA (xs.take i) (xs.getD i default)
def famE (xs : List Nat) : Int := if fe xs xs.length 0 = 0 then (if famB xs = true then 1 else 0) else fe xs xs.length 0
def fvA (z : Bool) (xs : List Nat) (n : Nat) (e1 : Int) (i : {i : Nat // i ≤ n ∧ fe xs (n - i) i = e1}) : St :=
  ⟨48, 0, [(0,.isl z (cX xs) n), (10,.isl z (cX xs) n), (11,.val (.int .i64 n)), (12,.val (.int .i64 i.val))], []⟩
def fvB (z : Bool) (xs : List Nat) (n : Nat) (i : {i : Nat // i ≤ n ∧ ∀ j, j < i → hasA (xs.take j) (xs.getD j default) = false}) : St :=
  ⟨48, 0, [(0,.isl z (cX xs) n), (35,.isl z (cX xs) n), (36,.val (.int .i64 n)), (37,.val (.int .i64 i.val))], []⟩
theorem famB_f (hl : xs.length = n) (h : ∀ j, j < n → hasA (xs.take j) (xs.getD j default) = false) : famB xs = false := by
  unfold famB
  rw [List.any_eq_false]
  intro j hj
  rw [h j (by have := List.mem_range.1 hj; omega)]; simp
theorem famB_t (hl : xs.length = n) (hj : j < n) (h : hasA (xs.take j) (xs.getD j default) = true) : famB xs = true := by
  unfold famB
  rw [List.any_eq_true]
  exact ⟨j, List.mem_range.2 (by omega), h⟩
theorem famE_1 (hl : xs.length = n) (h : fe xs n 0 = e1) (h0 : e1 ≠ 0) : famE xs = e1 := by unfold famE; rw [hl, h, if_neg h0]
theorem famE_0 (hl : xs.length = n) (h : fe xs n 0 = 0) : famE xs = if famB xs = true then 1 else 0 := by unfold famE; rw [hl, if_pos h]
theorem fe_step (hi : i < n) : ∃ m, n - i = m + 1 ∧ n - (i + 1) = m := ⟨n - i - 1, by omega, by omega⟩
theorem fvalid_ok (hl : xs.length = n) (hn : n ≤ 400) : ACall Tryd.prog 20 [.isl z (cX xs) n] [] 0 (.val (.int .i64 (famE xs))) [] := by
  obtain ⟨e1, he1⟩ : ∃ e1, fe xs n 0 = e1 := ⟨_, rfl⟩
  have h0 : 0 ≤ n ∧ fe xs (n - 0) 0 = e1 := ⟨Nat.zero_le _, he1⟩
  have hz : 0 ≤ n ∧ ∀ j, j < 0 → hasA (xs.take j) (xs.getD j default) = false := ⟨Nat.zero_le _, fun j hj => absurd hj (by omega)⟩
  have hro := dmy_def; have hcb := dmy_def; have hb := dmy_def; have htk := dmy_def; have hnn := dmy_def
  refine ACall.enter Tryd.func20 rfl (by simp [Tryd.ntmps20]) (by simp) ?_; simp only [entry, idx, Tryd.ntmps20, List.length, List.map_cons, List.map_nil, List.append_nil, List.cons_append, List.nil_append, Nat.reduceAdd, Nat.zero_add, List.length_cons, List.length_nil]
  repeat' (first | (refine AC_loop_id ?_; refine AC_loop' [] ([].length) (fvA z xs n e1) (fun i => n - i.val) (⟨0, h0⟩) rfl (by unfold fvA; (try simp only [List.cons_append, List.nil_append]); refine Sub.mk2 ?_; (simp -dsimp (disch := try exact vD) only [push_cast, simprocAttr, out_eq, hro, hcb, hb, htk, hnn, c_Nat, add1sub]); (repeat refine aI ?_); first | done | exact vI) ?_; (rintro ⟨i, hi, he⟩; rcases Nat.lt_or_eq_of_le hi with hil | hil <;> first | (have ei : n = i := hil.symm; subst ei; (simp -dsimp (disch := try exact vD) only [push_cast, simprocAttr, fvA])) | (obtain ⟨m, hm1, hm2⟩ := fe_step hil; rw [hm1] at he; rcases Nat.lt_or_ge (xs.getD i default % 65536) 4096 with hro | hro <;> first | (rw [fe_r (by omega)] at he; (simp -dsimp (disch := try exact vD) only [push_cast, simprocAttr, fvA])) | (rcases Nat.eq_zero_or_pos i with hi0 | hi0 <;> first | (subst hi0; rw [fe_n hro (fun h => absurd h (by omega))] at he; (simp -dsimp (disch := try exact vD) only [push_cast, simprocAttr, fvA])) | (obtain ⟨p, rfl⟩ : ∃ p, i = p + 1 := ⟨i - 1, by omega⟩; rcases Bool.eq_false_or_eq_true (bef (xs.getD p default) (xs.getD (p + 1) default)) with hb | hb <;> first | (rw [fe_n hro (fun _ => hb)] at he; have hcb : (0 ≤ cmpSet (xs.getD p default) (xs.getD (p + 1) default)) = False := (by rw [cmp_bef, hb]; simp); (simp -dsimp (disch := try exact vD) only [push_cast, simprocAttr, fvA])) | (rw [fe_b hro (by omega) hb] at he; have hcb : (0 ≤ cmpSet (xs.getD p default) (xs.getD (p + 1) default)) = True := (by rw [cmp_bef, hb]; simp); (simp -dsimp (disch := try exact vD) only [push_cast, simprocAttr, fvA]))))))) | (refine Nxt_id ?_; refine Nxt.mk [] (⟨0 + 1, by omega, by rw [hm2]; exact he⟩) rfl (by unfold fvA; (try simp only [List.cons_append, List.nil_append]); refine Sub.mk2 ?_; (simp -dsimp (disch := try exact vD) only [push_cast, simprocAttr, out_eq, hro, hcb, hb, htk, hnn, c_Nat, add1sub]); (repeat refine aI ?_); first | done | exact vI) (by first | omega | (dsimp only; omega) | (simp; done) | (simp; omega))) | (refine Nxt_id ?_; refine Nxt.mk [] (⟨p + 1 + 1, by omega, by rw [hm2]; exact he⟩) rfl (by unfold fvA; (try simp only [List.cons_append, List.nil_append]); refine Sub.mk2 ?_; (simp -dsimp (disch := try exact vD) only [push_cast, simprocAttr, out_eq, hro, hcb, hb, htk, hnn, c_Nat, add1sub]); (repeat refine aI ?_); first | done | exact vI) (by first | omega | (dsimp only; omega) | (simp; done) | (simp; omega))) | (refine AC_loop_id ?_; refine AC_loop' [] ([].length) (fvB z xs n) (fun i => n - i.val) (⟨0, hz⟩) rfl (by unfold fvB; (try simp only [List.cons_append, List.nil_append]); refine Sub.mk2 ?_; (simp -dsimp (disch := try exact vD) only [push_cast, simprocAttr, out_eq, hro, hcb, hb, htk, hnn, c_Nat, add1sub]); (repeat refine aI ?_); first | done | exact vI) ?_; (rintro ⟨i, hi, hf⟩; rcases Nat.lt_or_eq_of_le hi with hil | hil <;> first | (have ei : n = i := hil.symm; subst ei; (simp -dsimp (disch := try exact vD) only [push_cast, simprocAttr, fvB])) | (rcases Bool.eq_false_or_eq_true (hasA (List.take i xs) (xs.getD i default)) with hb | hb <;> (simp -dsimp (disch := try exact vD) only [push_cast, simprocAttr, fvB])))) | (refine Nxt_id ?_; refine Nxt.mk [] (⟨i + 1, by omega, fun j hj => by rcases Nat.lt_or_eq_of_le (Nat.le_of_lt_succ hj) with h | h; exact hf j h; rw [h]; exact hb⟩) rfl (by unfold fvB; (try simp only [List.cons_append, List.nil_append]); refine Sub.mk2 ?_; (simp -dsimp (disch := try exact vD) only [push_cast, simprocAttr, out_eq, hro, hcb, hb, htk, hnn, c_Nat, add1sub]); (repeat refine aI ?_); first | done | exact vI) (by first | omega | (dsimp only; omega) | (simp; done) | (simp; omega))) | apply AC_seq | apply AC_region_lit | ((first | refine AL_go rfl (fun K hK => ?_) | refine AL_go0 (fun K hK => ?_)); (first | refine R_callG (f := 53) [] 0 false ?_ | refine R_callG (f := 15) [] 0 false ?_); simp -dsimp (disch := try exact vD) only [push_cast, simprocAttr, out_eq, hro, hcb, hb, htk, hnn, c_Nat, add1sub]; (repeat refine aI ?_); intro G hG; refine hG _ _ ?_; clear hG G; (first | refine ⟨_, _, compare_ok, ?_⟩ | refine ⟨_, _, facc_ok (qs := List.take i xs) (by rw [List.length_take]; omega) (by omega), ?_⟩); simp -dsimp (disch := try exact vD) only [push_cast, simprocAttr, out_eq, hro, hcb, hb, htk, hnn, c_Nat, add1sub]; (repeat refine aI ?_); apply hK; clear hK K) | ((first | refine AL_go rfl (fun K hK => ?_) | refine AL_go0 (fun K hK => ?_)); (first | apply R_move | apply R_assign | apply Q_load | apply Q_loadAgg | apply Q_indexAddr | apply Q_indexArr | apply Q_len | apply Q_lenStr | apply Q_pick | apply Q_sliceStr | apply Q_sliceI | apply Q_eqAgg | apply Q_neqAgg | apply Q_neqSelf | apply Q_bin); simp -dsimp (disch := try exact vD) only [push_cast, simprocAttr, out_eq, hro, hcb, hb, htk, hnn, c_Nat, add1sub]; (repeat refine aI ?_); apply hK; clear hK K) | ((first | refine AL_go rfl (fun K hK => ?_) | refine AL_go0 (fun K hK => ?_)); (first | apply Q_slice); simp -dsimp (disch := try exact vD) only [push_cast, simprocAttr, out_eq, hro, hcb, hb, htk, hnn, c_Nat, add1sub]; (repeat refine aI ?_); apply hK; clear hK K) | ((first | refine AL_go rfl (fun K hK => ?_) | refine AL_go0 (fun K hK => ?_)); (first | apply Q_sliceEnd); simp -dsimp (disch := try exact vD) only [push_cast, simprocAttr, out_eq, hro, hcb, hb, htk, hnn, c_Nat, add1sub]; (repeat refine aI ?_); apply hK; clear hK K) | ((first | refine AL_go rfl (fun K hK => ?_) | refine AL_go0 (fun K hK => ?_)); (first | apply Q_sliceX); simp -dsimp (disch := try exact vD) only [push_cast, simprocAttr, out_eq, hro, hcb, hb, htk, hnn, c_Nat, add1sub]; (repeat refine aI ?_); apply hK; clear hK K) | ((first | refine AL_guard rfl rfl (fun K1 K2 h1 h2 => ?_) rfl | refine AC_cond_k (fun K1 K2 h1 h2 => ?_)); simp -dsimp (disch := try exact vD) only [push_cast, simprocAttr, out_eq, hro, hcb, hb, htk, hnn, c_Nat, add1sub]; (first | (refine ⟨fun hc => ?_, fun hc => ?_⟩ <;> first | (exfalso; omega) | (exfalso; contradiction) | refine h1 ?_ | refine h2 ?_) | refine h1 ?_ | refine h2 ?_); all_goals clear h1 h2 K1 K2) | apply AL_nil | apply Thn_normal | apply Thn_ret | apply Thn_exit | apply Blk_normal | apply Blk_ret | apply Blk_here | (refine Blk_other rfl ?_) | apply AC_block | apply AC_exit | apply AC_skip | apply AC_ret)
  all_goals first
    | (have e : famE xs = 7 := (by rw [famE_1 hl (he1.trans he.symm) (by decide)]); rw [e]; (refine Ends.mk2 (by first | exact .inr rfl | exact .inl rfl) [] ?_; simp -dsimp (disch := try exact vD) only [push_cast, simprocAttr, Tryd.f20]; (repeat refine aI ?_); try (first | exact vI | fail)); done)
    | (have e : famE xs = 1 := (by rw [famE_1 hl (he1.trans he.symm) (by decide)]); rw [e]; (refine Ends.mk2 (by first | exact .inr rfl | exact .inl rfl) [] ?_; simp -dsimp (disch := try exact vD) only [push_cast, simprocAttr, Tryd.f20]; (repeat refine aI ?_); try (first | exact vI | fail)); done)
    | (have e : famE xs = 1 := (by rw [Nat.sub_self] at he; rw [famE_0 hl (he1.trans he.symm), famB_t hl hil hb]; rfl); rw [e]; (refine Ends.mk2 (by first | exact .inr rfl | exact .inl rfl) [] ?_; simp -dsimp (disch := try exact vD) only [push_cast, simprocAttr, Tryd.f20]; (repeat refine aI ?_); try (first | exact vI | fail)); done)
    | (have e : famE xs = 0 := (by rw [Nat.sub_self] at he; rw [famE_0 hl (he1.trans he.symm), famB_f hl hf]; rfl); rw [e]; (refine Ends.mk2 (by first | exact .inr rfl | exact .inl rfl) [] ?_; simp -dsimp (disch := try exact vD) only [push_cast, simprocAttr, Tryd.f20]; (repeat refine aI ?_); try (first | exact vI | fail)); done)
    | trace_state
end Go.Proofs.YtabafldpnkjboaaDoor
