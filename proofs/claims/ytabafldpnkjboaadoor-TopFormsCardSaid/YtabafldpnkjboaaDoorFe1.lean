/- Members and numbers of members of sets: math/bits' functions by their tables, set.Members, set.Count. No condition. -/
import Derived.Test.YtabafldpnkjboaaDoorTy
import Derived.Test.YtabafldpnkjboaaDoorProg
import Derived.Test.YtabafldpnkjboaaDoorSymD
import Derived.Test.YtabafldpnkjboaaDoorExA
import Derived.Test.YtabafldpnkjboaaDoorBpB
import Derived.Test.YtabafldpnkjboaaDoorEcA
set_option linter.unusedVariables false
set_option linter.unusedSectionVars false
set_option linter.unusedSimpArgs false
set_option maxHeartbeats 2000000
set_option maxRecDepth 20000
namespace Go.Proofs.YtabafldpnkjboaaDoor
open Go Go.Sy Go.Bp
attribute [local irreducible] AO AL AC OpT ACall Ends DGo DRun Thn Blk Nxt
variable {s i j k n : Nat}
theorem glAV0 : glAV 0 = .ipt (cI .u8 tab32) 0 := rfl
theorem low_and (h : s % 65536 ≠ 0) : U (sand s (65536 - s % 65536)) = U (2 ^ low s) ∧ low s < 16 := by
  have := Lib.lowest_bit 16 (s % 65536) h (Nat.mod_lt _ (by decide))
  refine ⟨?_, this.2⟩
  have h2 := this.1
  have e : 65536 - s % 65536 = 2 ^ 16 - s % 65536 := by omega
  unfold sand low
  rw [← h2, ← e]
  unfold U
  congr 1
  have lt : 65536 - s % 65536 < 65536 := by omega
  rw [mod_and, Nat.mod_eq_of_lt lt, Nat.mod_eq_of_lt (show s % 65536 &&& (65536 - s % 65536) < 65536 from Nat.lt_of_le_of_lt Nat.and_le_right lt)]
def dbI (p : Nat) : Nat := 2 ^ p * 125613361 % 4294967296 / 134217728
theorem db_at (h : n < 32) : dbI n < 32 ∧ tab32[dbI n]? = some (n : Int) := by
  have key : ∀ k, k < 32 → dbI k < 32 ∧ tab32[dbI k]? = some (k : Int) := by decide +kernel
  exact key n h
theorem wrap32 (m : Nat) : IntKind.wrap .u32 (m : Int) = ((m % 4294967296 : Nat) : Int) := by
  simp [IntKind.wrap, IntKind.bits, IntKind.signed]
theorem fdiv27 (m : Nat) : Int.fdiv (m : Int) (2 ^ min (27 : Nat) (IntKind.bits .u32)) = ((m / 134217728 : Nat) : Int) := by
  rw [show min (27 : Nat) (IntKind.bits .u32) = 27 from rfl, Int.fdiv_eq_ediv_of_nonneg _ (by decide), show (2 : Int) ^ 27 = ((134217728 : Nat) : Int) by rfl, ← Int.natCast_ediv]
theorem db_mul (h : n < 16) : Int.fdiv (IntKind.wrap .u32 (U (2 ^ n) * 125613361)) (2 ^ min (27 : Nat) (IntKind.bits .u32)) = (dbI n : Int) := by
  have h2 : 2 ^ n < 65536 := by rw [show (65536 : Nat) = 2 ^ 16 by rfl]; exact Nat.pow_lt_pow_right (by decide) h
  rw [U_of h2, show (((2 ^ n : Nat) : Int) * 125613361) = ((2 ^ n * 125613361 : Nat) : Int) by simp, wrap32, fdiv27]; rfl
theorem tz_raw {q d r : Nat} (hne : ¬ s % 65536 = 0) (hl : U (sand s (65536 - s % 65536)) = U q) (hm : Int.fdiv (IntKind.wrap .u32 (U q * 125613361)) (2 ^ min (27 : Nat) (IntKind.bits .u32)) = (d : Int)) (hd : d < 32) (ha : tab32[d]? = some (r : Int)) (hr : r < 16) :
    ACall Tryd.prog 54 [.val (.int .u16 (U s))] [] 0 (.val (.int .i64 r)) [] := by
  refine ACall.enter Tryd.func54 rfl (by simp [Tryd.ntmps54]) (by simp) ?_; simp only [entry, idx, Tryd.ntmps54, List.length, List.map_cons, List.map_nil, List.append_nil, List.cons_append, List.nil_append, Nat.reduceAdd, Nat.zero_add, List.length_cons, List.length_nil]
  repeat' (first | apply AC_seq | apply AC_region_lit | ((first | refine AL_go rfl (fun K hK => ?_) | refine AL_go0 (fun K hK => ?_)); (first | apply R_move | apply R_assign | apply Q_load | apply Q_loadAgg | apply Q_indexAddr | apply Q_indexArr | apply Q_not | apply Q_neg | apply Q_convert | apply Q_eqAgg | apply Q_neqAgg | apply Q_neqSelf | apply Q_bin); simp -dsimp (disch := try exact vD) only [push_cast, simprocAttr, hne, hl, hm, glAV0, ha]; (repeat refine aI ?_); apply hK; clear hK K) | ((first | refine AL_guard rfl rfl (fun K1 K2 h1 h2 => ?_) rfl | refine AC_cond_k (fun K1 K2 h1 h2 => ?_)); simp -dsimp (disch := try exact vD) only [push_cast, simprocAttr, hne, hl, hm, glAV0, ha]; (first | (refine ⟨fun hc => ?_, fun hc => ?_⟩ <;> first | (exfalso; omega) | (exfalso; contradiction) | refine h1 ?_ | refine h2 ?_) | refine h1 ?_ | refine h2 ?_); all_goals clear h1 h2 K1 K2) | apply AL_nil | apply Thn_normal | apply Thn_ret | apply Thn_exit | apply Blk_normal | apply Blk_ret | apply Blk_here | (refine Blk_other rfl ?_) | apply AC_block | apply AC_exit | apply AC_skip | apply AC_ret)
  all_goals (refine Ends.mk2 (by first | exact .inr rfl | exact .inl rfl) [] ?_; simp -dsimp (disch := try exact vD) only [push_cast, simprocAttr, Tryd.f54]; (repeat refine aI ?_); try (first | exact vI | fail))
theorem tz_ok (hne : ¬ s % 65536 = 0) : ACall Tryd.prog 54 [.val (.int .u16 (U s))] [] 0 (.val (.int .i64 (low s))) [] :=
  tz_raw hne (low_and hne).1 (db_mul (low_and hne).2) (db_at (n := low s) (by have := (low_and hne).2; omega)).1 (db_at (n := low s) (by have := (low_and hne).2; omega)).2 (low_and hne).2
def P8 : ByteArray := ⟨[0, 1, 1, 2, 1, 2, 2, 3, 1, 2, 2, 3, 2, 3, 3, 4, 1, 2, 2, 3, 2, 3, 3, 4, 2, 3, 3, 4, 3, 4, 4, 5, 1, 2, 2, 3, 2, 3, 3, 4, 2, 3, 3, 4, 3, 4, 4, 5, 2, 3, 3, 4, 3, 4, 4, 5, 3, 4, 4, 5, 4, 5, 5, 6, 1, 2, 2, 3, 2, 3, 3, 4, 2, 3, 3, 4, 3, 4, 4, 5, 2, 3, 3, 4, 3, 4, 4, 5, 3, 4, 4, 5, 4, 5, 5, 6, 2, 3, 3, 4, 3, 4, 4, 5, 3, 4, 4, 5, 4, 5, 5, 6, 3, 4, 4, 5, 4, 5, 5, 6, 4, 5, 5, 6, 5, 6, 6, 7, 1, 2, 2, 3, 2, 3, 3, 4, 2, 3, 3, 4, 3, 4, 4, 5, 2, 3, 3, 4, 3, 4, 4, 5, 3, 4, 4, 5, 4, 5, 5, 6, 2, 3, 3, 4, 3, 4, 4, 5, 3, 4, 4, 5, 4, 5, 5, 6, 3, 4, 4, 5, 4, 5, 5, 6, 4, 5, 5, 6, 5, 6, 6, 7, 2, 3, 3, 4, 3, 4, 4, 5, 3, 4, 4, 5, 4, 5, 5, 6, 3, 4, 4, 5, 4, 5, 5, 6, 4, 5, 5, 6, 5, 6, 6, 7, 3, 4, 4, 5, 4, 5, 5, 6, 4, 5, 5, 6, 5, 6, 6, 7, 4, 5, 5, 6, 5, 6, 6, 7, 5, 6, 6, 7, 6, 7, 7, 8].toArray⟩
theorem P8_size : P8.size = 256 := by decide +kernel
def popI (i : Int) : Int := (memL i.toNat 16 : Nat)
theorem P8_at : ∀ i, i < 256 → ((P8.get! i).toNat : Int) = (memL i 16 : Nat) := by decide +kernel
theorem Q_pop {P : Program} {st : St} {dst : Option Nat} {ty : TypeId} {pos : String} {af : Array Edge} {g : Option (Nat × Bool)} {nid : Nat} {K : Nat → Eff → Prop} (t : TypeId) {lit : ByteArray} (ix : Operand) [ht : TStr P t] (hl : lit = P8)
    (h : bindK (intAV (st.op ix)) fun i => (0 ≤ i ∧ i < 256) ∧ K 0 ⟨.val (.int .u8 (popI i)), []⟩) : AO P ⟨dst, .index t (.const (.string lit)) ix, ty, pos, af, g⟩ nid st K := by
  subst hl
  obtain ⟨i, h1, ⟨h2, h3⟩, h4⟩ := h
  refine Q_indexS t _ ix ⟨_, rfl, i, h1, ⟨h2, ?_⟩, ?_⟩
  · rw [P8_size]; exact h3
  · have := P8_at i.toNat (by omega)
    show K 0 ⟨.val (.int .u8 ((P8.get! i.toNat).toNat : Int)), []⟩
    rw [this]; exact h4
theorem popI_le (i : Int) : 0 ≤ popI i ∧ popI i ≤ 16 := by have := memL_le (s := i.toNat) (j := 16); unfold popI; omega
def cb (s i : Nat) : Nat := if s.testBit i = true then 1 else 0
theorem memL_cb {s j : Nat} : memL s (j + 1) = memL s j + cb s j := by
  unfold cb
  cases h : s.testBit j with
  | true => rw [memL_t h]; simp
  | false => rw [memL_f h]; simp
theorem memL16 {s : Nat} : memL s 16 = cb s 0 + cb s 1 + cb s 2 + cb s 3 + cb s 4 + cb s 5 + cb s 6 + cb s 7 + cb s 8 + cb s 9 + cb s 10 + cb s 11 + cb s 12 + cb s 13 + cb s 14 + cb s 15 := by
  iterate 16 rw [memL_cb]
  rw [memL_0]; omega
theorem memL_mod {s : Nat} : memL (s % 65536) 16 = memL s 16 := by
  have key : ∀ i, i < 16 → cb (s % 65536) i = cb s i := fun i hi => by
    unfold cb; rw [show (65536 : Nat) = 2 ^ 16 by rfl, Nat.testBit_mod_two_pow]; simp [hi]
  rw [memL16, memL16]
  simp (discharger := omega) only [key]
theorem pop_sum {s : Nat} : popI (U (s % 65536 / 256)) + popI (U (sand s 255)) = (memL s 16 : Nat) := by
  have e1 : (U (s % 65536 / 256)).toNat = s % 65536 / 256 := by rw [U_of (by omega)]; rfl
  have e2 : sand s 255 < 65536 := Nat.lt_of_le_of_lt Nat.and_le_right (by decide)
  have e3 : (U (sand s 255)).toNat = sand s 255 := by rw [U_of e2]; rfl
  unfold popI
  rw [e1, e3, ← memL_mod (s := s), memL16, memL16, memL16]
  have h1 : ∀ i, cb (s % 65536 / 256) i = cb (s % 65536) (i + 8) := fun i => by
    unfold cb
    rw [show (256 : Nat) = 2 ^ 8 by rfl, Nat.testBit_div_two_pow]
  have h2 : ∀ i, i < 8 → cb (sand s 255) i = cb (s % 65536) i := fun i hi => by
    unfold cb sand
    rw [Nat.testBit_and, show (255 : Nat) = 2 ^ 8 - 1 by rfl, Nat.testBit_two_pow_sub_one, show (65536 : Nat) = 2 ^ 16 by rfl, Nat.testBit_mod_two_pow]
    simp [hi, show i < 16 by omega]
  have h3 : ∀ i, 8 ≤ i → cb (sand s 255) i = 0 := fun i hi => by
    unfold cb sand
    rw [Nat.testBit_and, show (255 : Nat) = 2 ^ 8 - 1 by rfl, Nat.testBit_two_pow_sub_one]
    simp [show ¬ i < 8 by omega]
  have h4 : ∀ i, 16 ≤ i → cb (s % 65536) i = 0 := fun i hi => by
    unfold cb
    rw [show (65536 : Nat) = 2 ^ 16 by rfl, Nat.testBit_mod_two_pow]
    simp [show ¬ i < 16 by omega]
  simp only [h1, Nat.reduceAdd]
  simp (discharger := omega) only [h2, h3, h4]
  omega
theorem oc_ok : ACall Tryd.prog 74 [.val (.int .u16 (U s))] [] 0 (.val (.int .i64 (memL s 16 : Nat))) [] := by
  have e0 : U (s % 65536 / 256) < 256 := by rw [U_of (by omega)]; omega
  have e1 : U (sand s 255) < 256 := by
    have h : sand s 255 ≤ 255 := Nat.and_le_right
    rw [U_of (by omega)]; omega
  have e2 := U_nn (x := s % 65536 / 256)
  have e3 := U_nn (x := sand s 255)
  have e4 := popI_le (U (s % 65536 / 256))
  have e5 := popI_le (U (sand s 255))
  have e6 := pop_sum (s := s)
  have e7 := memL_le (s := s) (j := 16)
  generalize memL s 16 = m at *
  refine ACall.enter Tryd.func74 rfl (by simp [Tryd.ntmps74]) (by simp) ?_; simp only [entry, idx, Tryd.ntmps74, List.length, List.map_cons, List.map_nil, List.append_nil, List.cons_append, List.nil_append, Nat.reduceAdd, Nat.zero_add, List.length_cons, List.length_nil]
  repeat' (first | ((refine DG_run (fun K hK => ?_); refine Q_pop _ _ (by kernel_rfl) ?_; (simp -dsimp (disch := try exact vD) only [push_cast, simprocAttr, e6]); (repeat refine aI ?_); first | refine hK _ _ _ ?_ | refine hK _ _ ?_; clear hK K)) | apply AC_seq | apply AC_region_lit | ((first | refine AL_go rfl (fun K hK => ?_) | refine AL_go0 (fun K hK => ?_) | refine DG_run (fun K hK => ?_)); (first | apply R_move | apply R_assign | apply Q_convert | apply Q_indexV | apply Q_indexVA | apply Q_indexS | apply Q_bin); simp -dsimp (disch := try exact vD) only [push_cast, simprocAttr, e6]; (repeat refine aI ?_); apply hK; clear hK K) | ((first | refine AL_guard rfl rfl (fun K1 K2 h1 h2 => ?_) rfl | refine AC_cond_k (fun K1 K2 h1 h2 => ?_) | refine DG_guard rfl rfl (fun K1 K2 h1 h2 => ?_)); simp -dsimp (disch := try exact vD) only [push_cast, simprocAttr, e6]; (first | (refine ⟨fun hc => ?_, fun hc => ?_⟩ <;> first | (exfalso; omega) | (exfalso; contradiction) | refine h1 ?_ | refine h2 ?_) | refine h1 ?_ | refine h2 ?_); all_goals clear h1 h2 K1 K2) | (refine AC_draw (id := 1) (by kernel_rfl) [⟨0, [], [6, 7, 8], [], [], 0⟩, ⟨1, [0], [6, 7, 8], [], [], 0⟩, ⟨2, [0, 1], [6, 7, 8], [], [], 0⟩, ⟨3, [], [3, 4, 5], [], [], 0⟩, ⟨4, [3], [3, 4, 5], [], [], 0⟩, ⟨5, [3, 4], [3, 4, 5], [], [], 0⟩, ⟨6, [0, 1, 2, 3, 4, 5], [], [], [], 0⟩, ⟨7, [0, 1, 2, 3, 4, 5, 6], [], [], [], 0⟩, ⟨8, [0, 1, 2, 3, 4, 5, 6, 7], [], [], [], 0⟩] (by kernel_rfl) (by kernel_rfl) (by kernel_rfl) ?_) | ((first | refine DG_next' (by kernel_rfl) (fun K hK => ?_) | refine DG_nil (by kernel_rfl) (fun K hK => ?_)); simp only [↓Go.Sy.dsnE_some, ↓Go.Sy.dsnE_none, ↓Go.Sy.dsnE_nil, ↓Go.Sy.dsnO_snoc, ↓Go.Sy.dsnO_nil, ↓Go.Sy.nidAt_snoc, ↓Go.Sy.nidAt_nil, push_cast, Nat.reduceLeDiff, Nat.reduceSub, Nat.reduceBEq, Nat.reduceEqDiff, Nat.reduceAdd, Nat.reduceLT, ↓reduceIte, reduceCtorEq]; refine hK _ _ _ ?_; clear hK K) | apply DG_go | apply AL_nil | apply Thn_normal | apply Thn_ret | apply Thn_exit | apply Blk_normal | apply Blk_ret | apply Blk_here | (refine Blk_other rfl ?_) | apply AC_block | apply AC_exit | apply AC_skip | apply AC_ret)
  all_goals (refine Ends.mk2 (by first | exact .inr rfl | exact .inl rfl) [] ?_; simp -dsimp (disch := try exact vD) only [push_cast, simprocAttr, Tryd.f74]; (repeat refine aI ?_); try (first | exact vI | fail))
def msI (s : Nat) (k : {k : Nat // k ≤ 16}) : St :=
  ⟨16, 0, [(0,.val (.int .u16 (U (cutK s k.val)))), (3,nilOr (memL s k.val) 0 1)], nilOb (memL s k.val) 0 (cI .i64 (mem s k.val)) 3⟩
theorem ms_ok : ACall Tryd.prog 21 [.val (.int .u16 (U s))] [] 0 (.isl (memL s 16 == 0) (cI .i64 (mem s 16)) (memL s 16)) [] := by
  have h00 : U s = U (cutK s 0) := by rw [cutK_0, U_mod]
  rw [h00]
  have hnx := dmy_def; have hnl := dmy_def; have hnc := dmy_def; have hpl := dmy_def
  have hle := fun (j : Nat) => memL_le (s := s) (j := j)
  refine ACall.enter Tryd.func21 rfl (by simp [Tryd.ntmps21]) (by simp) ?_; simp only [entry, idx, Tryd.ntmps21, List.length, List.map_cons, List.map_nil, List.append_nil, List.cons_append, List.nil_append, Nat.reduceAdd, Nat.zero_add, List.length_cons, List.length_nil]
  repeat' (first | (refine AC_loop_id ?_; refine AC_loop' [9] ([9].length) (msI s) (fun k => 16 - k.val) (⟨0, by omega⟩) rfl (by unfold msI; (try simp only [List.cons_append, List.nil_append]); refine Sub.mk2 ?_; (simp -dsimp (disch := try exact vD) only [push_cast, simprocAttr, u16_sub1, hnx, hnl, hnc, hpl, memL_0, mem_len, mem_z]); (repeat refine aI ?_); first | done | exact vI) ?_; (rintro ⟨k, hk⟩; have hkl := hle k; rcases Decidable.em (cutK s k % 65536 = 0) with hz | hz <;> first | (have hlm := last_mem hz hk; rcases Nat.eq_zero_or_pos (memL s k) with h0 | h0 <;> (simp -dsimp (disch := try exact vD) only [push_cast, simprocAttr, msI])) | (have hn := next_mem hz; have hnp := hn.lt; have hng := hn.ge; have hnx := hn.mem; have hnl := hn.len; have hnc := hn.cut; generalize hpl : low (cutK s k) = p at hn hnp hng hnx hnl hnc; rcases Nat.eq_zero_or_pos (memL s k) with h0 | h0 <;> (simp -dsimp (disch := try exact vD) only [push_cast, simprocAttr, msI])))) | (refine Nxt_id ?_; refine Nxt.mk [2] (⟨p + 1, by omega⟩) rfl (by unfold msI; (try simp only [List.cons_append, List.nil_append]); refine Sub.mk2 ?_; (simp -dsimp (disch := try exact vD) only [push_cast, simprocAttr, u16_sub1, hnx, hnl, hnc, hpl, memL_0, mem_len, mem_z]); (repeat refine aI ?_); first | done | exact vI) (by first | omega | (dsimp only; omega) | (simp; done) | (simp; omega))) | (refine Nxt_id ?_; refine Nxt.mk [1] (⟨p + 1, by omega⟩) rfl (by unfold msI; (try simp only [List.cons_append, List.nil_append]); refine Sub.mk2 ?_; (simp -dsimp (disch := try exact vD) only [push_cast, simprocAttr, u16_sub1, hnx, hnl, hnc, hpl, memL_0, mem_len, mem_z]); (repeat refine aI ?_); first | done | exact vI) (by first | omega | (dsimp only; omega) | (simp; done) | (simp; omega))) | apply AC_seq | apply AC_region_lit | ((first | refine AL_go rfl (fun K hK => ?_) | refine AL_go0 (fun K hK => ?_)); (first | refine R_callG (f := 54) [] 0 false ?_); simp -dsimp (disch := try exact vD) only [push_cast, simprocAttr, u16_sub1, hnx, hnl, hnc, hpl, memL_0, mem_len, mem_z]; (repeat refine aI ?_); intro G hG; refine hG _ _ ?_; clear hG G; (first | refine ⟨_, _, tz_ok (s := cutK s k) (by assumption), ?_⟩); simp -dsimp (disch := try exact vD) only [push_cast, simprocAttr, u16_sub1, hnx, hnl, hnc, hpl, memL_0, mem_len, mem_z]; (repeat refine aI ?_); apply hK; clear hK K) | ((first | refine AL_go rfl (fun K hK => ?_) | refine AL_go0 (fun K hK => ?_)); (first | apply R_move | apply R_assign | apply Q_buildSlice | apply Q_eqAgg | apply Q_neqAgg | apply Q_neqSelf | apply Q_bin | apply Q_appendNil); simp -dsimp (disch := try exact vD) only [push_cast, simprocAttr, u16_sub1, hnx, hnl, hnc, hpl, memL_0, mem_len, mem_z]; (repeat refine aI ?_); apply hK; clear hK K) | ((first | refine AL_go rfl (fun K hK => ?_) | refine AL_go0 (fun K hK => ?_)); (first | apply Q_append); simp -dsimp (disch := try exact vD) only [push_cast, simprocAttr, u16_sub1, hnx, hnl, hnc, hpl, memL_0, mem_len, mem_z]; (repeat refine aI ?_); apply hK; clear hK K) | ((first | refine AL_go rfl (fun K hK => ?_) | refine AL_go0 (fun K hK => ?_)); (first | apply Q_append00); simp -dsimp (disch := try exact vD) only [push_cast, simprocAttr, u16_sub1, hnx, hnl, hnc, hpl, memL_0, mem_len, mem_z]; (repeat refine aI ?_); apply hK; clear hK K) | ((first | refine AL_go rfl (fun K hK => ?_) | refine AL_go0 (fun K hK => ?_)); (first | apply Q_appendIn); simp -dsimp (disch := try exact vD) only [push_cast, simprocAttr, u16_sub1, hnx, hnl, hnc, hpl, memL_0, mem_len, mem_z]; (repeat refine aI ?_); apply hK; clear hK K) | ((first | refine AL_guard rfl rfl (fun K1 K2 h1 h2 => ?_) rfl | refine AC_cond_k (fun K1 K2 h1 h2 => ?_)); simp -dsimp (disch := try exact vD) only [push_cast, simprocAttr, u16_sub1, hnx, hnl, hnc, hpl, memL_0, mem_len, mem_z]; (first | (refine ⟨fun hc => ?_, fun hc => ?_⟩ <;> first | (exfalso; omega) | (exfalso; contradiction) | refine h1 ?_ | refine h2 ?_) | refine h1 ?_ | refine h2 ?_); all_goals clear h1 h2 K1 K2) | apply AL_nil | apply Thn_normal | apply Thn_ret | apply Thn_exit | apply Blk_normal | apply Blk_ret | apply Blk_here | (refine Blk_other rfl ?_) | apply AC_block | apply AC_exit | apply AC_skip | apply AC_ret)
  all_goals first
    | (rw [hlm.1, hlm.2, h0, mem_z h0]; (refine Ends.mk2 (by first | exact .inr rfl | exact .inl rfl) [] ?_; simp -dsimp (disch := try exact vD) only [push_cast, simprocAttr, Tryd.f21]; (repeat refine aI ?_); try (first | exact vI | fail)); done)
    | (rw [hlm.1, hlm.2, beq_s h0]; ((refine Ends.frz 0 ?_; simp -dsimp (disch := try exact vD) only [push_cast, simprocAttr, Tryd.f21, tk_mem, mem_len]; (repeat refine aI ?_); intro K hK; refine hK _ _ ?_; clear hK K); refine Ends.mk2 (by first | exact .inr rfl | exact .inl rfl) [] ?_; simp -dsimp (disch := try exact vD) only [push_cast, simprocAttr, Tryd.f21, tk_mem, mem_len]; (repeat refine aI ?_); try (first | exact vI | fail)); done)
    | trace_state
theorem cnt_ok : ACall Tryd.prog 59 [.val (.int .u16 (U s))] [] 0 (.val (.int .i64 (memL s 16 : Nat))) [] := by
  refine ACall.enter Tryd.func59 rfl (by simp [Tryd.ntmps59]) (by simp) ?_; simp only [entry, idx, Tryd.ntmps59, List.length, List.map_cons, List.map_nil, List.append_nil, List.cons_append, List.nil_append, Nat.reduceAdd, Nat.zero_add, List.length_cons, List.length_nil]
  repeat' (first | apply AC_seq | apply AC_region_lit | ((first | refine AL_go rfl (fun K hK => ?_) | refine AL_go0 (fun K hK => ?_)); (first | refine R_callG (f := 74) [] 0 false ?_); simp -dsimp (disch := try exact vD) only [push_cast, simprocAttr]; (repeat refine aI ?_); intro G hG; refine hG _ _ ?_; clear hG G; (first | refine ⟨_, _, oc_ok (s := s), ?_⟩); simp -dsimp (disch := try exact vD) only [push_cast, simprocAttr]; (repeat refine aI ?_); apply hK; clear hK K) | ((first | refine AL_go rfl (fun K hK => ?_) | refine AL_go0 (fun K hK => ?_)); (first | apply R_move | apply R_assign); simp -dsimp (disch := try exact vD) only [push_cast, simprocAttr]; (repeat refine aI ?_); apply hK; clear hK K) | ((first | refine AL_guard rfl rfl (fun K1 K2 h1 h2 => ?_) rfl | refine AC_cond_k (fun K1 K2 h1 h2 => ?_)); simp -dsimp (disch := try exact vD) only [push_cast, simprocAttr]; (first | (refine ⟨fun hc => ?_, fun hc => ?_⟩ <;> first | (exfalso; omega) | (exfalso; contradiction) | refine h1 ?_ | refine h2 ?_) | refine h1 ?_ | refine h2 ?_); all_goals clear h1 h2 K1 K2) | apply AL_nil | apply Thn_normal | apply Thn_ret | apply Thn_exit | apply Blk_normal | apply Blk_ret | apply Blk_here | (refine Blk_other rfl ?_) | apply AC_block | apply AC_exit | apply AC_skip | apply AC_ret)
  all_goals (refine Ends.mk2 (by first | exact .inr rfl | exact .inl rfl) [] ?_; simp -dsimp (disch := try exact vD) only [push_cast, simprocAttr, Tryd.f59]; (repeat refine aI ?_); try (first | exact vI | fail))
end Go.Proofs.YtabafldpnkjboaaDoor
