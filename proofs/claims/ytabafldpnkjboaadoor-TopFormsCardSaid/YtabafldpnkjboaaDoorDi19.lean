/- Families: the reference's Valid, the program's Support. No condition. -/
import Derived.Test.YtabafldpnkjboaaDoorDi18
set_option linter.unusedVariables false
set_option linter.unusedSectionVars false
set_option linter.unusedSimpArgs false
set_option maxHeartbeats 4000000
set_option maxRecDepth 20000
namespace Go.Proofs.YtabafldpnkjboaaDoor
open Go Go.Sy Go.Bp Go.Dg
attribute [local irreducible] AO AL AC OpT ACall Ends DGo DRun Thn Blk Nxt
variable {n N M k i m r a b j w u v s q x y : Nat} {z : Bool} {xs : List Nat} {e1 : Int}
theorem cb_le (h : ∀ i, bit x i = true → bit y i = true) (hi : i < 16) : cb x i ≤ cb y i := by
  have h1 := h i
  rw [bit_raw hi, bit_raw hi] at h1
  unfold cb
  split
  · rename_i hc; rw [if_pos (h1 hc)]; exact Nat.le_refl _
  · exact Nat.zero_le _
theorem memL_mono (h : sdif x y % 65536 = 0) : memL x 16 ≤ memL y 16 := by
  have hb := sub_bit.1 h
  rw [memL16 (s := x), memL16 (s := y)]
  have c := fun i (hi : i < 16) => cb_le (i := i) hb hi
  have := c 0 (by decide); have := c 1 (by decide); have := c 2 (by decide); have := c 3 (by decide); have := c 4 (by decide); have := c 5 (by decide); have := c 6 (by decide); have := c 7 (by decide)
  have := c 8 (by decide); have := c 9 (by decide); have := c 10 (by decide); have := c 11 (by decide); have := c 12 (by decide); have := c 13 (by decide); have := c 14 (by decide); have := c 15 (by decide)
  omega
theorem sub_le' (h : sdif x y % 65536 = 0) : x % 65536 ≤ y % 65536 := by
  refine sub_le (x := x % 65536) (y := y % 65536) (sub_bit.2 fun i hi => ?_) (Nat.mod_lt _ (by decide)) (Nat.mod_lt _ (by decide))
  rw [bit_mod] at hi ⊢
  exact sub_bit.1 h i hi
theorem bef_not (h : sdif x y % 65536 = 0) : bef y x = false := by
  have h1 := memL_mono h
  have h2 := sub_le' h
  unfold bef
  split
  · rw [decide_eq_false_iff_not]; omega
  · rw [decide_eq_false_iff_not]; omega
theorem bef_trans (h1 : bef x y = true) (h2 : bef y s = true) : bef x s = true := by
  unfold bef at *
  split at h1 <;> split at h2 <;> simp only [decide_eq_true_eq] at h1 h2
  · rw [if_pos (by omega)]; simp; omega
  · rw [if_neg (by omega)]; simp; omega
  · rw [if_neg (by omega)]; simp; omega
  · rw [if_neg (by omega)]; simp; omega
theorem pair_none (h : ∀ k, k < n → ¬ j = k → ¬ sdif (xs.getD k default) (xs.getD j default) % 65536 = 0) (hl : xs.length = n) (hj : j < n) : hasA (xs.take j) (xs.getD j default) = false := by
  unfold hasA
  rw [List.any_eq_false]
  intro m hm
  obtain ⟨k, hk, rfl⟩ := List.getElem_of_mem hm
  have hk2 : k < j := by rw [List.length_take] at hk; omega
  have e : (xs.take j)[k] = xs.getD k default := by
    rw [List.getElem_take, List.getD_eq_getElem?_getD, List.getElem?_eq_getElem (by omega)]; rfl
  rw [e]
  simpa using h k (by omega) (by omega)
def supA (xs : List Nat) : Nat → Nat
  | 0 => 0
  | j + 1 => sor (supA xs j) (xs.getD j default)
theorem supA_s : supA xs (j + 1) = sor (supA xs j) (xs.getD j default) := rfl
theorem supA_0 : supA xs 0 = 0 := rfl
def spI (z : Bool) (xs : List Nat) (n : Nat) (i : {i : Nat // i ≤ n}) : St :=
  ⟨17, 0, [(3,.val (.int .u16 (U (supA xs i.val)))), (6,.isl z (cX xs) n), (7,.val (.int .i64 n)), (8,.val (.int .i64 i.val))], []⟩
theorem support_ok (hl : xs.length = n) (hn : n < 2 ^ 40) : ACall Tryd.prog 22 [.isl z (cX xs) n] [] 0 (.val (.int .u16 (U (supA xs n)))) [] := by
  refine ACall.enter Tryd.func22 rfl (by simp [Tryd.ntmps22]) (by simp) ?_; simp only [entry, idx, Tryd.ntmps22, List.length, List.map_cons, List.map_nil, List.append_nil, List.cons_append, List.nil_append, Nat.reduceAdd, Nat.zero_add, List.length_cons, List.length_nil]
  repeat' (first | (refine AC_loop_id ?_; refine AC_loop' [] ([].length) (spI z xs n) (fun i => n - i.val) (⟨0, by omega⟩) rfl (by unfold spI; (try simp only [List.cons_append, List.nil_append]); refine Sub.mk2 ?_; (simp -dsimp (disch := try exact vD) only [push_cast, simprocAttr, c_Nat, supA_s, supA_0]); (repeat refine aI ?_); first | done | exact vI) ?_; (rintro ⟨i, hi⟩; rcases Nat.lt_or_eq_of_le hi with hil | hil <;> first | (have ei : n = i := hil.symm; subst ei; (simp -dsimp (disch := try exact vD) only [push_cast, simprocAttr, spI])) | (simp -dsimp (disch := try exact vD) only [push_cast, simprocAttr, spI]))) | (refine Nxt_id ?_; refine Nxt.mk [] (⟨i + 1, by omega⟩) rfl (by unfold spI; (try simp only [List.cons_append, List.nil_append]); refine Sub.mk2 ?_; (simp -dsimp (disch := try exact vD) only [push_cast, simprocAttr, c_Nat, supA_s, supA_0]); (repeat refine aI ?_); first | done | exact vI) (by first | omega | (dsimp only; omega) | (simp; done) | (simp; omega))) | apply AC_seq | apply AC_region_lit | ((first | refine AL_go rfl (fun K hK => ?_) | refine AL_go0 (fun K hK => ?_)); (first | apply R_move | apply R_assign | apply Q_load | apply Q_loadAgg | apply Q_indexAddr | apply Q_indexArr | apply Q_len | apply Q_lenStr | apply Q_bin); simp -dsimp (disch := try exact vD) only [push_cast, simprocAttr, c_Nat, supA_s, supA_0]; (repeat refine aI ?_); apply hK; clear hK K) | ((first | refine AL_guard rfl rfl (fun K1 K2 h1 h2 => ?_) rfl | refine AC_cond_k (fun K1 K2 h1 h2 => ?_)); simp -dsimp (disch := try exact vD) only [push_cast, simprocAttr, c_Nat, supA_s, supA_0]; (first | (refine ⟨fun hc => ?_, fun hc => ?_⟩ <;> first | (exfalso; omega) | (exfalso; contradiction) | refine h1 ?_ | refine h2 ?_) | refine h1 ?_ | refine h2 ?_); all_goals clear h1 h2 K1 K2) | apply AL_nil | apply Thn_normal | apply Thn_ret | apply Thn_exit | apply Blk_normal | apply Blk_ret | apply Blk_here | (refine Blk_other rfl ?_) | apply AC_block | apply AC_exit | apply AC_skip | apply AC_ret)
  all_goals first
    | ((refine Ends.mk2 (by first | exact .inr rfl | exact .inl rfl) [] ?_; simp -dsimp (disch := try exact vD) only [push_cast, simprocAttr, Tryd.f22]; (repeat refine aI ?_); try (first | exact vI | fail)); done)
    | trace_state
theorem bit_supA : ∀ j, bit (supA xs j) i = true ↔ ∃ k, k < j ∧ bit (xs.getD k default) i = true := by
  intro j
  induction j with
  | zero => rw [supA_0, bit_0]; exact ⟨fun h => (by cases h), fun ⟨k, h, _⟩ => absurd h (by omega)⟩
  | succ j ih =>
    rw [supA_s, bit_sor, Bool.or_eq_true, ih]
    constructor
    · rintro (⟨k, h1, h2⟩ | h)
      · exact ⟨k, by omega, h2⟩
      · exact ⟨j, by omega, h⟩
    · rintro ⟨k, h1, h2⟩
      by_cases e : k = j
      · subst e; exact .inr h2
      · exact .inl ⟨k, by omega, h2⟩
theorem sup_lt (hn : n ≤ 16) : supA xs M % 65536 < 2 ^ n ↔ ∀ k, k < M → xs.getD k default % 65536 < 2 ^ n := by
  have big : ∀ x, x % 65536 < 2 ^ n → ∀ i, bit x i = true → i < n := fun x h i hi => by
    refine Decidable.not_not.1 fun hc => ?_
    have hp : 2 ^ n ≤ 2 ^ i := Nat.pow_le_pow_right (by omega) (by omega)
    have : bit x i = false := by unfold bit; exact Nat.testBit_lt_two_pow (by omega)
    rw [this] at hi; cases hi
  constructor
  · intro h k hk
    exact bits_lt fun i hi => big _ h i (bit_supA M |>.2 ⟨k, hk, hi⟩)
  · intro h
    refine bits_lt fun i hi => ?_
    obtain ⟨k, hk, h2⟩ := (bit_supA M).1 hi
    exact big _ (h k hk) i h2
end Go.Proofs.YtabafldpnkjboaaDoor
