/- Diagrams: the reference's Minimal. No condition. -/
import Derived.Test.YtebinjcofclfaaaDoorDi25
set_option linter.unusedVariables false
set_option linter.unusedSectionVars false
set_option linter.unusedSimpArgs false
set_option maxHeartbeats 4000000
set_option maxRecDepth 20000
namespace Go.Proofs.YtebinjcofclfaaaDoor
open Go Go.Sy Go.Bp Go.Dg
attribute [local irreducible] AO AL AC OpT ACall Ends DGo DRun Thn Blk Nxt
variable {n N M T k i m r a b j w u v s q x y d : Nat} {z : Bool} {F : List Fo} {p f g : Nat → Bool} {ms : List Nat}
def miI (p : Nat → Bool) (T s : Nat) (x : {x : Nat // x ≤ s ∧ ∀ y, y < x → p y = true → ¬ sdif y s % 65536 = 0}) : St :=
  ⟨24, 0, [(0,.isl false (cB (tblP p T)) T), (1,.val (.int .u16 (s : Int))), (5,.val (.int .u16 (x.val : Int)))], []⟩
theorem rmin_ok (hs : s < T) (hT : T ≤ 4096) : ACall Tryd.prog 66 [.isl false (cB (tblP p T)) T, .val (.int .u16 (s : Int))] [] 0 (.val (.bool (isM p s))) [] := by
  have hwi := fun (x : Nat) (hx : x < 65536) => PLift.up (by
    have := rwithin_ok' (s := x) (q := s)
    rw [U_of hx, U_of (show s < 65536 by omega)] at this; exact this)
  have lt1 : (tblP p T).length = T := tblP_len
  have hgs := tblP_d (p := p) hs
  have hg := dmy_def; have hv := dmy_def; have hw := dmy_def
  refine ACall.enter Tryd.func66 rfl (by simp [Tryd.ntmps66]) (by simp) ?_; simp only [entry, idx, Tryd.ntmps66, List.length, List.map_cons, List.map_nil, List.append_nil, List.cons_append, List.nil_append, Nat.reduceAdd, Nat.zero_add, List.length_cons, List.length_nil]
  repeat' (first | (refine AC_loop_id ?_; refine AC_loop' [] ([].length) (miI p T s) (fun x => s - x.val) (⟨0, Nat.zero_le _, fun y hy => absurd hy (by omega)⟩) rfl (by unfold miI; (try simp only [List.cons_append, List.nil_append]); refine Sub.mk2 ?_; (simp -dsimp (disch := try exact vD) only [push_cast, simprocAttr, hg, hgs, hv, hw]); (repeat refine aI ?_); first | done | exact vI) ?_; (rintro ⟨x, hx, hno⟩; rcases Nat.lt_or_eq_of_le hx with hxl | hxl <;> first | (have ex : s = x := hxl.symm; subst ex; (simp -dsimp (disch := try exact vD) only [push_cast, simprocAttr, miI])) | (have hg := tblP_d (p := p) (show x < T by omega); rcases Bool.eq_false_or_eq_true (p x) with hv | hv <;> rw [hv] at hg <;> rcases Decidable.em (sdif x s % 65536 = 0) with hw | hw <;> (simp -dsimp (disch := try exact vD) only [push_cast, simprocAttr, miI])))) | (refine Nxt_id ?_; refine Nxt.mk [] (⟨x + 1, by omega, fun y hy hpy => by rcases Nat.lt_or_eq_of_le (Nat.le_of_lt_succ hy) with h | h; exact hno y h hpy; rw [h] at hpy ⊢; first | exact hw | (rw [hv] at hpy; cases hpy)⟩) rfl (by unfold miI; (try simp only [List.cons_append, List.nil_append]); refine Sub.mk2 ?_; (simp -dsimp (disch := try exact vD) only [push_cast, simprocAttr, hg, hgs, hv, hw]); (repeat refine aI ?_); first | done | exact vI) (by first | omega | (dsimp only; omega) | (simp; done) | (simp; omega))) | apply AC_seq | apply AC_region_lit | ((first | refine AL_go rfl (fun K hK => ?_) | refine AL_go0 (fun K hK => ?_)); (first | refine R_callG (f := 40) [] 0 false ?_); simp -dsimp (disch := try exact vD) only [push_cast, simprocAttr, hg, hgs, hv, hw]; (repeat refine aI ?_); intro G hG; refine hG _ _ ?_; clear hG G; (first | refine ⟨_, _, (hwi x (by omega)).down, ?_⟩); simp -dsimp (disch := try exact vD) only [push_cast, simprocAttr, hg, hgs, hv, hw]; (repeat refine aI ?_); apply hK; clear hK K) | ((first | refine AL_go rfl (fun K hK => ?_) | refine AL_go0 (fun K hK => ?_)); (first | apply R_move | apply R_assign | apply Q_load | apply Q_loadAgg | apply Q_indexAddr | apply Q_indexArr | apply Q_pick | apply Q_bin); simp -dsimp (disch := try exact vD) only [push_cast, simprocAttr, hg, hgs, hv, hw]; (repeat refine aI ?_); apply hK; clear hK K) | ((first | refine AL_guard rfl rfl (fun K1 K2 h1 h2 => ?_) rfl | refine AC_cond_k (fun K1 K2 h1 h2 => ?_)); simp -dsimp (disch := try exact vD) only [push_cast, simprocAttr, hg, hgs, hv, hw]; (first | (refine ⟨fun hc => ?_, fun hc => ?_⟩ <;> first | (exfalso; omega) | (exfalso; contradiction) | refine h1 ?_ | refine h2 ?_) | refine h1 ?_ | refine h2 ?_); all_goals clear h1 h2 K1 K2) | apply AL_nil | apply Thn_normal | apply Thn_ret | apply Thn_exit | apply Blk_normal | apply Blk_ret | apply Blk_here | (refine Blk_other rfl ?_) | apply AC_block | apply AC_exit | apply AC_skip | apply AC_ret)
  all_goals first
    | (have e : isM p s = false := (by rw [Bool.eq_false_iff]; intro hc; exact (isM_iff.1 hc).2 x hxl hv hw); rw [e]; (refine Ends.mk2 (by first | exact .inr rfl | exact .inl rfl) [] ?_; simp -dsimp (disch := try exact vD) only [push_cast, simprocAttr, Tryd.f66]; (repeat refine aI ?_); try (first | exact vI | fail)); done)
    | (have e : isM p s = p s := (by rw [Bool.eq_iff_iff, isM_iff]; exact ⟨fun h => h.1, fun h => ⟨h, hno⟩⟩); rw [e]; (refine Ends.mk2 (by first | exact .inr rfl | exact .inl rfl) [] ?_; simp -dsimp (disch := try exact vD) only [push_cast, simprocAttr, Tryd.f66]; (repeat refine aI ?_); try (first | exact vI | fail)); done)
    | trace_state
def qM (p : Nat → Bool) (k s : Nat) : Bool := decide (memL s 16 = k) && isM p s
def oM (p : Nat → Bool) (T k s : Nat) : List Nat := ((List.range k).flatMap fun j => (List.range T).filter (qM p j)) ++ (List.range s).filter (qM p k)
theorem oM_t (h : qM p k s = true) : oM p T k (s + 1) = oM p T k s ++ [s] := by
  unfold oM
  rw [List.range_succ, List.filter_append, List.filter_cons_of_pos h, List.filter_nil, List.append_assoc]
theorem oM_f (h : qM p k s = false) : oM p T k (s + 1) = oM p T k s := by
  unfold oM
  rw [List.range_succ, List.filter_append, List.filter_cons_of_neg (by rw [h]; simp), List.filter_nil, List.append_nil]
theorem oM_n : oM p T k T = oM p T (k + 1) 0 := by
  unfold oM
  rw [List.range_succ, List.flatMap_append, List.range_zero, List.filter_nil, List.append_nil]
  simp
theorem oM_0 : oM p T 0 0 = [] := rfl
def oL (p : Nat → Bool) (T k s : Nat) : Nat := (oM p T k s).length
theorem oL_len : (oM p T k s).length = oL p T k s := rfl
theorem oL_n : oL p T k T = oL p T (k + 1) 0 := by unfold oL; rw [oM_n]
theorem oL_0 : oL p T 0 0 = 0 := rfl
theorem oL_t (h : oM p T k (s + 1) = oM p T k s ++ [s]) : oL p T k (s + 1) = oL p T k s + 1 := by unfold oL; rw [h]; simp
theorem oL_f (h : oM p T k (s + 1) = oM p T k s) : oL p T k (s + 1) = oL p T k s := by unfold oL; rw [h]
theorem oM_z (h : oL p T k s = 0) : oM p T k s = [] := List.length_eq_zero_iff.1 h
theorem oL_le1 : ∀ s, oL p T k s ≤ oL p T k 0 + s := fun s => by
  induction s with
  | zero => exact Nat.le_refl _
  | succ s ih =>
    cases h : qM p k s with
    | true => rw [oL_t (oM_t h)]; omega
    | false => rw [oL_f (oM_f h)]; omega
theorem oL_le2 : ∀ k, oL p T k 0 ≤ k * T := fun k => by
  induction k with
  | zero => rw [oL_0]; exact Nat.zero_le _
  | succ k ih =>
    have := oL_le1 (p := p) (T := T) (k := k) T
    rw [← oL_n, Nat.succ_mul]; omega
theorem oL_le (hk : k ≤ 7) (hT : T ≤ 64) (hs : s ≤ T) : oL p T k s ≤ 512 := by
  have h1 := oL_le1 (p := p) (T := T) (k := k) s
  have h2 := oL_le2 (p := p) (T := T) k
  have h3 : k * T ≤ 7 * 64 := Nat.mul_le_mul hk hT
  omega
theorem tk_oM : (cX (oM p T k s)).take (oL p T k s) = cX (oM p T k s) := List.take_of_length_le (by simp [cX, oL])
attribute [local irreducible] oM oL isM memL
abbrev dgB (z : Bool) (n : Nat) (F : List Fo) (N r : Nat) : AObj := .cells [.val (.int .i64 n), .isl z (cR F) N, .val (.int .i64 r)] 28
def moA (z : Bool) (n : Nat) (F : List Fo) (N r T : Nat) (p : Nat → Bool) (k : {k : Nat // k ≤ n + 1}) : St :=
  ⟨38, 0, [(1,.pt 0 0), (3,nilOr (oL p T k.val 0) 1 1), (4,.isl false (cB (tblP p T)) T), (5,.val (.int .i64 k.val))], [(0, some (dgB z n F N r))] ++ nilOb (oL p T k.val 0) 1 (cX (oM p T k.val 0)) 39⟩
def moB (z : Bool) (n : Nat) (F : List Fo) (N r T : Nat) (p : Nat → Bool) (k : Nat) (s : {s : Nat // s ≤ T}) : St :=
  ⟨38, 0, [(1,.pt 0 0), (3,nilOr (oL p T k s.val) 1 1), (4,.isl false (cB (tblP p T)) T), (5,.val (.int .i64 k)), (6,.val (.int .i64 s.val))], [(0, some (dgB z n F N r))] ++ nilOb (oL p T k s.val) 1 (cX (oM p T k s.val)) 39⟩
theorem rminimal_w (hn : n ≤ 6) (hb : Bnd F) (h16 : ∀ k, k < F.length → (F.getD k default).v < 16) (hN : F.length = N) (hN2 : N < 2 ^ 40) (hr : r < 2 ^ 50) (hT : 2 ^ n = T) :
    ACall Tryd.prog 31 [.agg [.val (.int .i64 n), .isl z (cR F) N, .val (.int .i64 r)]] [] 0 (.isl (oL (fun t => valN F t r) T (n + 1) 0 == 0) (cX (oM (fun t => valN F t r) T (n + 1) 0)) (oL (fun t => valN F t r) T (n + 1) 0)) [] := by
  obtain ⟨p, hpp⟩ : ∃ p : Nat → Bool, (fun t => valN F t r) = p := ⟨_, rfl⟩
  have htl : tabL F r T = tblP p T := by rw [← hpp]; rfl
  have htb := PLift.up (rtable_ok (z := z) (by omega) hb h16 hN hN2 hr hT)
  rw [htl] at htb
  rw [hpp]
  have hp : 2 ^ n ≤ 2 ^ 6 := Nat.pow_le_pow_right (by omega) hn
  rw [hT] at hp
  have hrc := fun (s : Nat) (h : s < 65536) => PLift.up (rcountN_ok h)
  have hrm := fun (s : Nat) (h : s < T) => PLift.up (rmin_ok (p := p) h (show T ≤ 4096 by omega))
  clear htl hpp
  have hb1 := dmy_def; have hk := dmy_def; have hi := dmy_def; have he := dmy_def; have hel := dmy_def; have hsn := dmy_def; have hz := dmy_def; have hon := dmy_def; have hln := dmy_def
  have hml : ∀ s, memL s 16 ≤ 16 := fun s => memL_le
  refine ACall.enter Tryd.func31 rfl (by simp [Tryd.ntmps31]) (by simp) ?_; simp only [entry, idx, Tryd.ntmps31, List.length, List.map_cons, List.map_nil, List.append_nil, List.cons_append, List.nil_append, Nat.reduceAdd, Nat.zero_add, List.length_cons, List.length_nil]
  repeat' (first | (refine AC_loop_id ?_; refine AC_loop' [0, 1] ([0, 1].length) (moB z n F N r T p k) (fun s => T - s.val) (⟨0, by omega⟩) rfl (by unfold moB; (try simp only [List.cons_append, List.nil_append]); refine Sub.mk2 ?_; (simp -dsimp (disch := try exact vD) only [push_cast, simprocAttr, hk, hi, hel, hz, hon, hln, oM_0, oL_0, tblP_len, c_Nat, oL_len]); (repeat refine aI ?_); first | done | exact vI) ?_; (rintro ⟨s, hs⟩; rcases Nat.lt_or_eq_of_le hs with hsl | hsl <;> first | (have es : T = s := hsl.symm; subst es; have hon := oM_n (p := p) (T := T) (k := k); have hln := oL_n (p := p) (T := T) (k := k); rcases Nat.eq_zero_or_pos (oL p T (k + 1) 0) with hz | hz <;> (simp -dsimp (disch := try exact vD) only [push_cast, simprocAttr, moB])) | (have hms := hml s; rcases Decidable.em (memL s 16 = k) with hk1 | hk1 <;> first | (have hk : ((memL s 16 : Int) = (k : Int)) = True := eq_true (by omega); rcases Bool.eq_false_or_eq_true (isM p s) with hi | hi <;> first | (have he := oM_t (p := p) (T := T) (k := k) (s := s) (by unfold qM; rw [hi, decide_eq_true hk1]; rfl); have hel := oL_t he; have hlo : (oM p T k s).length = oL p T k s := oL_len; have hob := oL_le (p := p) (T := T) (k := k) (s := s) (by omega) (by omega) hs; have hsn : cX (oM p T k s) ++ [AV.val (.int .u16 (s : Int))] = cX (oM p T k (s + 1)) := (by rw [he, ← cX_snocN, U_of (by omega)]); rcases Nat.eq_zero_or_pos (oL p T k s) with hz | hz <;> first | (have hsn := hsn; rw [oM_z hz] at hsn; have hsn : [AV.val (.int .u16 (s : Int))] = cX (oM p T k (s + 1)) := hsn; (simp -dsimp (disch := try exact vD) only [push_cast, simprocAttr, moB])) | (simp -dsimp (disch := try exact vD) only [push_cast, simprocAttr, moB])) | (have he := oM_f (p := p) (T := T) (k := k) (s := s) (by unfold qM; rw [hi, Bool.and_false]); have hel := oL_f he; have hsn := he; rcases Nat.eq_zero_or_pos (oL p T k s) with hz | hz <;> (simp -dsimp (disch := try exact vD) only [push_cast, simprocAttr, moB]))) | (have hk : ((memL s 16 : Int) = (k : Int)) = False := eq_false (by omega); have he := oM_f (p := p) (T := T) (k := k) (s := s) (by unfold qM; rw [decide_eq_false hk1]; rfl); have hel := oL_f he; have hsn := he; rcases Nat.eq_zero_or_pos (oL p T k s) with hz | hz <;> (simp -dsimp (disch := try exact vD) only [push_cast, simprocAttr, moB]))))) | (refine Nxt_id ?_; refine Nxt.mk [0, 1] (⟨s + 1, by omega⟩) rfl (by unfold moB; (try simp only [List.cons_append, List.nil_append]); refine Sub.mk2 ?_; (simp -dsimp (disch := try exact vD) only [push_cast, simprocAttr, hk, hi, hel, hz, hon, hln, oM_0, oL_0, tblP_len, c_Nat, oL_len, hsn]); (repeat refine aI ?_); first | done | exact vI) (by first | omega | (dsimp only; omega) | (simp; done) | (simp; omega))) | (refine Nxt_id ?_; refine Nxt.mk [0, 2] (⟨s + 1, by omega⟩) rfl (by unfold moB; (try simp only [List.cons_append, List.nil_append]); refine Sub.mk2 ?_; (simp -dsimp (disch := try exact vD) only [push_cast, simprocAttr, hk, hi, hel, hz, hon, hln, oM_0, oL_0, tblP_len, c_Nat, oL_len, hsn]); (repeat refine aI ?_); first | done | exact vI) (by first | omega | (dsimp only; omega) | (simp; done) | (simp; omega))) | (refine Nxt_id ?_; refine Nxt.mk [0, 3] (⟨s + 1, by omega⟩) rfl (by unfold moB; (try simp only [List.cons_append, List.nil_append]); refine Sub.mk2 ?_; (simp -dsimp (disch := try exact vD) only [push_cast, simprocAttr, hk, hi, hel, hz, hon, hln, oM_0, oL_0, tblP_len, c_Nat, oL_len, hsn]); (repeat refine aI ?_); first | done | exact vI) (by first | omega | (dsimp only; omega) | (simp; done) | (simp; omega))) | (refine AC_loop_id ?_; refine AC_loop' [0, 9] ([0, 9].length) (moA z n F N r T p) (fun k => n + 1 - k.val) (⟨0, by omega⟩) rfl (by unfold moA; (try simp only [List.cons_append, List.nil_append]); refine Sub.mk2 ?_; (simp -dsimp (disch := try exact vD) only [push_cast, simprocAttr, hk, hi, hel, hz, hon, hln, oM_0, oL_0, tblP_len, c_Nat, oL_len]); (repeat refine aI ?_); first | done | exact vI) ?_; (rintro ⟨k, hk2⟩; rcases Nat.eq_zero_or_pos (oL p T k 0) with hz | hz <;> (simp -dsimp (disch := try exact vD) only [push_cast, simprocAttr, moA]))) | (refine Nxt_id ?_; refine Nxt.mk [0, 1] (⟨k + 1, by omega⟩) rfl (by unfold moA; (try simp only [List.cons_append, List.nil_append]); refine Sub.mk2 ?_; (simp -dsimp (disch := try exact vD) only [push_cast, simprocAttr, hk, hi, hel, hz, hon, hln, oM_0, oL_0, tblP_len, c_Nat, oL_len]); (repeat refine aI ?_); first | done | exact vI) (by first | omega | (dsimp only; omega) | (simp; done) | (simp; omega))) | apply AC_seq | apply AC_region_lit | ((first | refine AL_go rfl (fun K hK => ?_) | refine AL_go0 (fun K hK => ?_)); (first | refine R_callG (f := 20) [] 0 false ?_ | refine R_callG (f := 44) [] 0 false ?_ | refine R_callG (f := 66) [] 0 false ?_); simp -dsimp (disch := try exact vD) only [push_cast, simprocAttr, hk, hi, hel, hz, hon, hln, oM_0, oL_0, tblP_len, c_Nat, oL_len]; (repeat refine aI ?_); intro G hG; refine hG _ _ ?_; clear hG G; (first | refine ⟨_, _, htb.down, ?_⟩ | refine ⟨_, _, (hrc s (by omega)).down, ?_⟩ | refine ⟨_, _, (hrm s hsl).down, ?_⟩); simp -dsimp (disch := try exact vD) only [push_cast, simprocAttr, hk, hi, hel, hz, hon, hln, oM_0, oL_0, tblP_len, c_Nat, oL_len]; (repeat refine aI ?_); apply hK; clear hK K) | ((first | refine AL_go rfl (fun K hK => ?_) | refine AL_go0 (fun K hK => ?_)); (first | apply R_move | apply R_assign | apply Q_load | apply Q_loadAgg | apply Q_fieldAddr | apply Q_len | apply Q_lenStr | apply Q_pick | apply Q_box | apply Q_buildSlice | apply Q_convert | apply Q_eqAgg | apply Q_neqAgg | apply Q_neqSelf | apply Q_bin | apply Q_appendNil); simp -dsimp (disch := try exact vD) only [push_cast, simprocAttr, hk, hi, hel, hz, hon, hln, oM_0, oL_0, tblP_len, c_Nat, oL_len]; (repeat refine aI ?_); apply hK; clear hK K) | ((first | refine AL_go rfl (fun K hK => ?_) | refine AL_go0 (fun K hK => ?_)); (first | apply Q_append); simp -dsimp (disch := try exact vD) only [push_cast, simprocAttr, hk, hi, hel, hz, hon, hln, oM_0, oL_0, tblP_len, c_Nat, oL_len]; (repeat refine aI ?_); apply hK; clear hK K) | ((first | refine AL_go rfl (fun K hK => ?_) | refine AL_go0 (fun K hK => ?_)); (first | apply Q_append00); simp -dsimp (disch := try exact vD) only [push_cast, simprocAttr, hk, hi, hel, hz, hon, hln, oM_0, oL_0, tblP_len, c_Nat, oL_len]; (repeat refine aI ?_); apply hK; clear hK K) | ((first | refine AL_go rfl (fun K hK => ?_) | refine AL_go0 (fun K hK => ?_)); (first | apply Q_appendIn); simp -dsimp (disch := try exact vD) only [push_cast, simprocAttr, hk, hi, hel, hz, hon, hln, oM_0, oL_0, tblP_len, c_Nat, oL_len]; (repeat refine aI ?_); apply hK; clear hK K) | ((first | refine AL_guard rfl rfl (fun K1 K2 h1 h2 => ?_) rfl | refine AC_cond_k (fun K1 K2 h1 h2 => ?_)); simp -dsimp (disch := try exact vD) only [push_cast, simprocAttr, hk, hi, hel, hz, hon, hln, oM_0, oL_0, tblP_len, c_Nat, oL_len]; (first | (refine ⟨fun hc => ?_, fun hc => ?_⟩ <;> first | (exfalso; omega) | (exfalso; contradiction) | refine h1 ?_ | refine h2 ?_) | refine h1 ?_ | refine h2 ?_); all_goals clear h1 h2 K1 K2) | apply AL_nil | apply Thn_normal | apply Thn_ret | apply Thn_exit | apply Blk_normal | apply Blk_ret | apply Blk_here | (refine Blk_other rfl ?_) | apply AC_block | apply AC_exit | apply AC_skip | apply AC_ret)
  all_goals first
    | (have ek : k = n + 1 := (by omega); subst ek; rw [hz, oM_z hz]; (refine Ends.mk2 (by first | exact .inr rfl | exact .inl rfl) [] ?_; simp -dsimp (disch := try exact vD) only [push_cast, simprocAttr, Tryd.f31]; (repeat refine aI ?_); try (first | exact vI | fail)); done)
    | (have ek : k = n + 1 := (by omega); subst ek; rw [beq_s hz]; ((refine Ends.frz 1 ?_; simp -dsimp (disch := try exact vD) only [push_cast, simprocAttr, Tryd.f31, tk_oM]; (repeat refine aI ?_); intro K hK; refine hK _ _ ?_; clear hK K); refine Ends.mk2 (by first | exact .inr rfl | exact .inl rfl) [] ?_; simp -dsimp (disch := try exact vD) only [push_cast, simprocAttr, Tryd.f31, tk_oM]; (repeat refine aI ?_); try (first | exact vI | fail)); done)
    | trace_state
end Go.Proofs.YtebinjcofclfaaaDoor
