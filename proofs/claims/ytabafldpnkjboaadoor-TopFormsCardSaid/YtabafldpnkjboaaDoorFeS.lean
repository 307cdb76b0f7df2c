/- FeS: Fe9 Fe10 Ec3, merged. No condition. -/
import Derived.Test.YtabafldpnkjboaaDoorFe1
import Derived.Test.YtabafldpnkjboaaDoorBpB
import Derived.Test.YtabafldpnkjboaaDoorSymC
/- Fe9. -/
set_option linter.unusedVariables false
set_option linter.unusedSectionVars false
set_option linter.unusedSimpArgs false
set_option maxHeartbeats 2000000
set_option maxRecDepth 20000
namespace Go.Proofs.YtabafldpnkjboaaDoor
open Go Go.Sy Go.Bp
attribute [local irreducible] AO AL AC OpT ACall Ends DGo DRun Thn Blk Nxt
variable {n i j k m s N j0 : Nat} {H : Proc}
theorem getD_N {k : List Nat} (hi : i < k.length) : (k.map fun (i : Nat) => (i : Int)).getD i default = ((k.getD i 0 : Nat) : Int) := by
  simp [List.getD_eq_getElem?_getD, List.getElem?_eq_getElem hi]
def piN (s i : Nat) : Nat := (memN s 16).getD i 0
theorem piN_at (hi : i < memL s 16) : (mem s 16).getD i default = (piN s i : Int) := by rw [mem_N, getD_N (by rw [← memL_N]; exact hi)]; rfl
theorem piN_mem (hi : i < memL s 16) : piN s i ∈ memN s 16 := by
  rw [memL_N] at hi
  unfold piN; rw [List.getD_eq_getElem?_getD, List.getElem?_eq_getElem hi, Option.getD_some]; exact List.getElem_mem hi
theorem piN_bit (hi : i < memL s 16) : piN s i < 16 ∧ bit s (piN s i) = true := by
  have := memN_mem.1 (piN_mem hi)
  exact ⟨this.1, by unfold bit; rw [mod_bit this.1]; exact this.2⟩
def pkA (s n i : Nat) : Nat := pickA (memN s 16) n i
theorem pkA_0 : pkA s n 0 = 0 := rfl
theorem pkA_t (h : vbit n i = true) : pkA s n (i + 1) = sor (pkA s n i) (2 ^ piN s i) := by unfold pkA piN; simp [pickA, h]
theorem pkA_f (h : vbit n i = false) : pkA s n (i + 1) = pkA s n i := by unfold pkA; simp [pickA, h]
theorem pkA_all : pkA s n (memL s 16) = pick s n := rfl
structure CG (s k N : Nat) (go : Nat → Bool) (j0 : Nat) (p : Nat × Nat) : Prop where
  hle : p.1 ≤ N
  hat : p.1 < N → p.2 = (comb (memL s 16) k).getD p.1 0
  hend : p.1 = N → ¬ p.2 % 4294967296 < 2 ^ memL s 16
  hgo : go (j0 + p.1) = true
  hfd : fd go j0 N = fd go (j0 + p.1) (N - p.1)
theorem nxtV_def : V (sor (n + sand n (vneg n)) (vquo (sxor n (n + sand n (vneg n))) (sand n (vneg n)) % 4294967296 / 4)) = V (nxtV n) := rfl
theorem CG.nxt {go : Nat → Bool} {j0 : Nat} (hc : CombN (memL s 16) k i n) (hN : (comb (memL s 16) k).length = N) (hi : i < N) (h0 : n ≠ 0) (hg : go (j0 + i + 1) = true) (hf : fd go j0 N = fd go (j0 + i) (N - i)) :
    CG s k N go j0 (i + 1, nxtV n % 4294967296) := by
  refine ⟨by omega, fun e => hc.next h0 (by dsimp only at e; omega), fun e => ?_, hg, ?_⟩
  · dsimp only at e ⊢
    rw [Nat.mod_mod]; exact hc.last h0 (by omega)
  · rw [hf]; dsimp only
    rw [show N - i = N - (i + 1) + 1 by omega, fd_t hg, Nat.add_assoc]
theorem fdG {go : Nat → Bool} {j0 : Nat} (hi : i < N) (hg : go (j0 + i + 1) = false) (hf : fd go j0 N = fd go (j0 + i) (N - i)) : fd go j0 N = (j0 + i + 1, false) := by
  rw [hf, show N - i = N - (i + 1) + 1 by omega, fd_f hg]
theorem fdZ {go : Nat → Bool} {j0 : Nat} (hi : i + 1 = N) (hg : go (j0 + i + 1) = true) (hf : fd go j0 N = fd go (j0 + i) (N - i)) : fd go j0 N = (j0 + i + 1, true) := by
  rw [hf, show N - i = 0 + 1 by omega, fd_t hg]; rfl
theorem fdN {go : Nat → Bool} {j0 : Nat} (hi : i = N) (hf : fd go j0 N = fd go (j0 + i) (N - i)) : fd go j0 N = (j0 + i, true) := by
  rw [hf, show N - i = 0 by omega]; rfl
attribute [local irreducible] memL mem comb pick pkA fd
def coI (s : Nat) (k N : Nat) (H : Proc) (j0 : Nat) (p : {p : Nat × Nat // CG s k N H.go j0 p}) : St :=
  ⟨70, 1, [(2,.yl 0), (7,.isl (memL s 16 == 0) (cI .i64 (mem s 16)) (memL s 16)), (8,.val (.int .u32 (V p.val.2)))], [(0, some (.tr H (j0 + p.val.1)))]⟩
def coJ (s n : Nat) (H : Proc) (j : Nat) (i : {i : Nat // i ≤ memL s 16}) : St :=
  ⟨70, 1, [(2,.yl 0), (7,.isl (memL s 16 == 0) (cI .i64 (mem s 16)) (memL s 16)), (8,.val (.int .u32 (V n))), (9,.val (.int .u16 (U (pkA s n i.val)))), (32,.isl (memL s 16 == 0) (cI .i64 (mem s 16)) (memL s 16)), (33,.val (.int .i64 (memL s 16))), (34,.val (.int .i64 i.val))], [(0, some (.tr H j))]⟩
theorem choose_ok (hP : H.P = Tryd.prog) (hm : memL s 16 < 7) (hk : k ≤ memL s 16) (hN : (comb (memL s 16) k).length = N) (hgo : H.go j0 = true) (hx : ∀ i, i < N → H.xs (j0 + i) = some (.int .u16 (U (pick s ((comb (memL s 16) k).getD i 0))))) :
    ACall Tryd.prog 60 [.val (.int .u16 (U s)), .val (.int .i64 k), .yl 0] [.tr H j0] 1 (.val (.bool (fd H.go j0 N).2)) [.tr H (fd H.go j0 N).1] := by
  have hf := comb_first hm hk
  have hM : 2 ^ memL s 16 ≤ 64 := by rw [show (64 : Nat) = 2 ^ 6 by rfl]; exact Nat.pow_le_pow_right (by decide) (by omega)
  have hk1 : 2 ^ k ≤ 2 ^ memL s 16 := Nat.pow_le_pow_right (by decide) hk
  have hMm : 2 ^ memL s 16 % 4294967296 = 2 ^ memL s 16 := Nat.mod_eq_of_lt (by omega)
  have hml := mem_len (s := s) (j := 16)
  have h0 : CG s k N H.go j0 (0, 2 ^ k - 1) := ⟨by omega, fun _ => hf.2.2.symm, fun e => absurd e (by show ¬ (0 = N); omega), hgo, rfl⟩
  have hat := fun (i : Nat) (h : i < N) => PLift.up (comb_at hm hk (j := i) (by omega))
  have hx := PLift.up hx
  generalize hM2 : 2 ^ memL s 16 = M at hM hMm
  have hjj := dmy_def; have hfe := dmy_def; have hlo := dmy_def; have hne := dmy_def; have hmn := dmy_def; have hlt := dmy_def; have hgs := dmy_def; have hxs := dmy_def; have hgi := dmy_def; have hb := dmy_def; have hg1 := dmy_def; have hgc := dmy_def; have hn0 := dmy_def; have hpa := dmy_def
  refine ACall.enter Tryd.func60 rfl (by simp [Tryd.ntmps60]) (by simp) ?_; simp only [entry, idx, Tryd.ntmps60, List.length, List.map_cons, List.map_nil, List.append_nil, List.cons_append, List.nil_append, Nat.reduceAdd, Nat.zero_add, List.length_cons, List.length_nil]
  repeat' (first | (((first | refine AL_go rfl (fun K hK => ?_) | refine AL_go0 (fun K hK => ?_)); apply Q_yield; (simp -dsimp (disch := try exact vD) only [push_cast, simprocAttr, hP, hxs, hg1, hgc]); (repeat refine aI ?_); apply hK; clear hK K)) | (refine AC_loop_id ?_; refine AC_loop' [0] ([0].length) (coJ s n H (j0 + i)) (fun a => memL s 16 - a.val) (⟨0, by omega⟩) rfl (by unfold coJ; (try simp only [List.cons_append, List.nil_append]); refine Sub.mk2 ?_; (simp -dsimp (disch := try exact vD) only [push_cast, simprocAttr, hP, hM2, hMm, hml, hjj, hfe, hlo, hlt, hgs, hxs, hgi, hb, hg1, hgc, hn0, hpa, pkA_0, pkA_t, pkA_f, nxtV_def]); (repeat refine aI ?_); first | done | exact vI) ?_; (rintro ⟨a, ha⟩; rcases Nat.lt_or_eq_of_le ha with hal | hal <;> first | (have hgi := piN_at (s := s) hal; have hpb := piN_bit hal; rcases Bool.eq_false_or_eq_true (vbit n a) with hb | hb <;> (simp -dsimp (disch := try exact vD) only [push_cast, simprocAttr, coJ])) | (have hpa : pkA s n a = pick s n := (by rw [hal]; exact pkA_all); (simp -dsimp (disch := try exact vD) only [push_cast, simprocAttr, coJ])))) | (refine Nxt_id ?_; refine Nxt.mk [0] (⟨a + 1, by omega⟩) rfl (by unfold coJ; (try simp only [List.cons_append, List.nil_append]); refine Sub.mk2 ?_; (simp -dsimp (disch := try exact vD) only [push_cast, simprocAttr, hP, hM2, hMm, hml, hjj, hfe, hlo, hlt, hgs, hxs, hgi, hb, hg1, hgc, hn0, hpa, pkA_0, pkA_t, pkA_f, nxtV_def]); (repeat refine aI ?_); first | done | exact vI) (by first | omega | (dsimp only; omega) | (simp; done) | (simp; omega))) | (refine AC_loop_id ?_; refine AC_loop' [0] ([0].length) (coI s k N H j0) (fun p => N - p.val.1) (⟨(0, 2 ^ k - 1), h0⟩) rfl (by unfold coI; (try simp only [List.cons_append, List.nil_append]); refine Sub.mk2 ?_; (simp -dsimp (disch := try exact vD) only [push_cast, simprocAttr, hP, hM2, hMm, hml, hjj, hfe, hlo, hlt, hgs, hxs, hgi, hb, hg1, hgc, hn0, hpa, pkA_0, pkA_t, pkA_f, nxtV_def]); (repeat refine aI ?_); first | done | exact vI) ?_; (rintro ⟨⟨i, n⟩, hc0⟩; have hle := hc0.hle; have hgc := hc0.hgo; have hfd := hc0.hfd; dsimp only at hle hgc hfd; rcases Nat.lt_or_eq_of_le hle with hil | hil <;> first | (have hgs := hc0.hend hil; have hfe := fdN hil hfd; rw [hM2] at hgs; (simp -dsimp (disch := try exact vD) only [push_cast, simprocAttr, coI])) | (have hne := hc0.hat hil; have hCN := (hat i hil).down; have hxs := hx.down i hil; dsimp only at hne; rw [← hne] at hCN hxs; clear hne; have hjj : j0 + (i + 1) = j0 + i + 1 := (Nat.add_assoc j0 i 1).symm; have hlt := hCN.lt; rw [hM2] at hlt; have hmn : n % 4294967296 = n := Nat.mod_eq_of_lt (by omega); rw [← hmn] at hlt; have hzl := hCN.zero; rw [hN] at hzl; rcases Nat.eq_zero_or_pos n with hnz | hnz <;> (first | (have hn0 : (n % 4294967296 = 0) = True := eq_true (by omega)) | (have hn0 : (n % 4294967296 = 0) = False := eq_false (by omega))); all_goals (rcases Bool.eq_false_or_eq_true (H.go (j0 + i + 1)) with hg1 | hg1) <;> (first | have hlo : (sand n (vneg n) % 4294967296 = 0) = False := eq_false (hCN.low (by omega)) | have hlo := dmy_def) <;> (first | have hfe := fdG hil hg1 hfd | have hfe := fdZ (hzl hnz) hg1 hfd | have hfe := CG.nxt hCN hN hil (by omega) hg1 hfd) <;> (simp -dsimp (disch := try exact vD) only [push_cast, simprocAttr, coI])))) | (refine Nxt_id ?_; refine Nxt.mk [0] (⟨(i + 1, nxtV n % 4294967296), hfe⟩) rfl (by unfold coI; (try simp only [List.cons_append, List.nil_append]); refine Sub.mk2 ?_; (simp -dsimp (disch := try exact vD) only [push_cast, simprocAttr, hP, hM2, hMm, hml, hjj, hfe, hlo, hlt, hgs, hxs, hgi, hb, hg1, hgc, hn0, hpa, pkA_0, pkA_t, pkA_f, nxtV_def]); (repeat refine aI ?_); first | done | exact vI) (by first | omega | (dsimp only; omega) | (simp; done) | (simp; omega))) | apply AC_seq | apply AC_region_lit | ((first | refine AL_go rfl (fun K hK => ?_) | refine AL_go0 (fun K hK => ?_)); (first | refine R_callG (f := 21) [] 0 false ?_); simp -dsimp (disch := try exact vD) only [push_cast, simprocAttr, hP, hM2, hMm, hml, hjj, hfe, hlo, hlt, hgs, hxs, hgi, hb, hg1, hgc, hn0, hpa, pkA_0, pkA_t, pkA_f, nxtV_def]; (repeat refine aI ?_); intro G hG; refine hG _ _ ?_; clear hG G; (first | refine ⟨_, _, ms_ok (s := s), ?_⟩); simp -dsimp (disch := try exact vD) only [push_cast, simprocAttr, hP, hM2, hMm, hml, hjj, hfe, hlo, hlt, hgs, hxs, hgi, hb, hg1, hgc, hn0, hpa, pkA_0, pkA_t, pkA_f, nxtV_def]; (repeat refine aI ?_); apply hK; clear hK K) | ((first | refine AL_go rfl (fun K hK => ?_) | refine AL_go0 (fun K hK => ?_)); (first | apply R_move | apply R_assign | apply Q_load | apply Q_loadAgg | apply Q_indexAddr | apply Q_indexArr | apply Q_len | apply Q_lenStr | apply Q_pick | apply Q_not | apply Q_neg | apply Q_eqAgg | apply Q_neqAgg | apply Q_neqSelf | apply Q_bin); simp -dsimp (disch := try exact vD) only [push_cast, simprocAttr, hP, hM2, hMm, hml, hjj, hfe, hlo, hlt, hgs, hxs, hgi, hb, hg1, hgc, hn0, hpa, pkA_0, pkA_t, pkA_f, nxtV_def]; (repeat refine aI ?_); apply hK; clear hK K) | ((first | refine AL_guard rfl rfl (fun K1 K2 h1 h2 => ?_) rfl | refine AC_cond_k (fun K1 K2 h1 h2 => ?_)); simp -dsimp (disch := try exact vD) only [push_cast, simprocAttr, hP, hM2, hMm, hml, hjj, hfe, hlo, hlt, hgs, hxs, hgi, hb, hg1, hgc, hn0, hpa, pkA_0, pkA_t, pkA_f, nxtV_def]; (first | (refine ⟨fun hc => ?_, fun hc => ?_⟩ <;> first | (exfalso; omega) | (exfalso; contradiction) | refine h1 ?_ | refine h2 ?_) | refine h1 ?_ | refine h2 ?_); all_goals clear h1 h2 K1 K2) | apply AL_nil | apply Thn_normal | apply Thn_ret | apply Thn_exit | apply Blk_normal | apply Blk_ret | apply Blk_here | (refine Blk_other rfl ?_) | apply AC_block | apply AC_exit | apply AC_skip | apply AC_ret)
  all_goals first
    | ((refine Ends.mk2 (by first | exact .inr rfl | exact .inl rfl) [0] ?_; simp -dsimp (disch := try exact vD) only [push_cast, simprocAttr, Tryd.f60, hfe]; (repeat refine aI ?_); try (first | exact vI | fail)); done)
    | trace_state
end Go.Proofs.YtabafldpnkjboaaDoor
/- Fe10. -/
set_option linter.unusedVariables false
set_option linter.unusedSectionVars false
set_option linter.unusedSimpArgs false
set_option maxHeartbeats 2000000
set_option maxRecDepth 20000
namespace Go.Proofs.YtabafldpnkjboaaDoor
open Go Go.Sy Go.Bp
attribute [local irreducible] AO AL AC OpT ACall Ends DGo DRun Thn Blk Nxt
variable {n i j k m s N j0 : Nat} {H : Proc}
attribute [local irreducible] memL mem comb pick fd sbL subs
abbrev bxS (s : Nat) : AV := .ipt [.val (.int .u16 (U s))] 0
def sbI (s : Nat) (H : Proc) (k : {k : Nat // SG s H.go k}) : St :=
  ⟨16, 1, [(0,.yl 0), (1, bxS s), (3,.val (.int .i64 k.val))], [(0, some (.tr H (sbL s k.val)))]⟩
theorem subs1_ok (hP : H.P = Tryd.prog) (hm : memL s 16 < 7) (hgo : H.go 0 = true) (hx : ∀ i, i < (subs s).length → H.xs i = some (.int .u16 (U ((subs s).getD i 0)))) :
    ACall Tryd.prog 58 [.yl 0, bxS s] [.tr H 0] 1 (.tup []) [.tr H (fd H.go 0 (subs s).length).1] := by
  have hxc : ∀ k, k ≤ memL s 16 → ∀ i, i < (comb (memL s 16) k).length → H.xs (sbL s k + i) = some (.int .u16 (U (pick s ((comb (memL s 16) k).getD i 0)))) := by
    intro k hk i hi
    have hl := sbL_le (s := s) (k := k + 1) (m := memL s 16 + 1) (by omega)
    rw [hx _ (by rw [subs_sb]; rw [sbL_succ] at hl; omega), subs_at hk hi]
  have hz := SG.zero (s := s) hgo
  have hch := fun (k : Nat) (h : SG s H.go k) (hk : k ≤ memL s 16) => PLift.up (choose_ok hP hm hk rfl h.hgo (hxc k hk))
  clear hx hxc
  have hb := dmy_def; have hfe := dmy_def; have hj1 := dmy_def
  refine ACall.enter Tryd.func58 rfl (by simp [Tryd.ntmps58]) (by simp) ?_; simp only [entry, idx, Tryd.ntmps58, List.length, List.map_cons, List.map_nil, List.append_nil, List.cons_append, List.nil_append, Nat.reduceAdd, Nat.zero_add, List.length_cons, List.length_nil]
  repeat' (first | (refine AC_loop_id ?_; refine AC_loop' [0] ([0].length) (sbI s H) (fun k => memL s 16 + 1 - k.val) (⟨0, hz⟩) rfl (by unfold sbI; (try simp only [List.cons_append, List.nil_append]); refine Sub.mk2 ?_; (simp -dsimp (disch := try exact vD) only [push_cast, simprocAttr, hb, hfe, hj1, sbL_0]); (repeat refine aI ?_); first | done | exact vI) ?_; (rintro ⟨k, hc0⟩; have hle := hc0.hle; rcases Nat.lt_or_ge (memL s 16) k with hk | hk <;> first | (have hfe := hc0.e (by omega); (simp -dsimp (disch := try exact vD) only [push_cast, simprocAttr, sbI])) | (rcases Bool.eq_false_or_eq_true (fd H.go (sbL s k) (comb (memL s 16) k).length).2 with hb | hb <;> first | (have hj1 := (hc0.t hk hb).2; have hn := (hc0.t hk hb).1; (simp -dsimp (disch := try exact vD) only [push_cast, simprocAttr, sbI])) | (have hfe := hc0.f hk hb; (simp -dsimp (disch := try exact vD) only [push_cast, simprocAttr, sbI]))))) | (refine Nxt_id ?_; refine Nxt.mk [0] (⟨k + 1, hn⟩) rfl (by unfold sbI; (try simp only [List.cons_append, List.nil_append]); refine Sub.mk2 ?_; (simp -dsimp (disch := try exact vD) only [push_cast, simprocAttr, hb, hfe, hj1, sbL_0]); (repeat refine aI ?_); first | done | exact vI) (by first | omega | (dsimp only; omega) | (simp; done) | (simp; omega))) | apply AC_seq | apply AC_region_lit | ((first | refine AL_go rfl (fun K hK => ?_) | refine AL_go0 (fun K hK => ?_)); (first | refine R_callG (f := 59) [] 0 false ?_ | refine R_callG (f := 60) [0] 1 false ?_); simp -dsimp (disch := try exact vD) only [push_cast, simprocAttr, hb, hfe, hj1, sbL_0]; (repeat refine aI ?_); intro G hG; refine hG _ _ ?_; clear hG G; (first | refine ⟨_, _, cnt_ok (s := s), ?_⟩ | refine ⟨_, _, (hch k hc0 ‹_›).down, ?_⟩); simp -dsimp (disch := try exact vD) only [push_cast, simprocAttr, hb, hfe, hj1, sbL_0]; (repeat refine aI ?_); apply hK; clear hK K) | ((first | refine AL_go rfl (fun K hK => ?_) | refine AL_go0 (fun K hK => ?_)); (first | apply R_move | apply R_assign | apply Q_load | apply Q_loadAgg | apply Q_pick | apply Q_bin); simp -dsimp (disch := try exact vD) only [push_cast, simprocAttr, hb, hfe, hj1, sbL_0]; (repeat refine aI ?_); apply hK; clear hK K) | ((first | refine AL_guard rfl rfl (fun K1 K2 h1 h2 => ?_) rfl | refine AC_cond_k (fun K1 K2 h1 h2 => ?_)); simp -dsimp (disch := try exact vD) only [push_cast, simprocAttr, hb, hfe, hj1, sbL_0]; (first | (refine ⟨fun hc => ?_, fun hc => ?_⟩ <;> first | (exfalso; omega) | (exfalso; contradiction) | refine h1 ?_ | refine h2 ?_) | refine h1 ?_ | refine h2 ?_); all_goals clear h1 h2 K1 K2) | apply AL_nil | apply Thn_normal | apply Thn_ret | apply Thn_exit | apply Blk_normal | apply Blk_ret | apply Blk_here | (refine Blk_other rfl ?_) | apply AC_block | apply AC_exit | apply AC_skip | apply AC_ret)
  all_goals first
    | ((refine Ends.mk2 (by first | exact .inr rfl | exact .inl rfl) [0] ?_; simp -dsimp (disch := try exact vD) only [push_cast, simprocAttr, Tryd.f58, hfe]; (repeat refine aI ?_); try (first | exact vI | fail)); done)
    | trace_state
theorem subs_ok : ACall Tryd.prog 28 [.val (.int .u16 (U s))] [] 0 (.fn 58 [bxS s]) [] := by
  refine ACall.enter Tryd.func28 rfl (by simp [Tryd.ntmps28]) (by simp) ?_; simp only [entry, idx, Tryd.ntmps28, List.length, List.map_cons, List.map_nil, List.append_nil, List.cons_append, List.nil_append, Nat.reduceAdd, Nat.zero_add, List.length_cons, List.length_nil]
  repeat' (first | apply AC_seq | apply AC_region_lit | ((first | refine AL_go rfl (fun K hK => ?_) | refine AL_go0 (fun K hK => ?_)); (first | apply R_assign | apply Q_box | apply Q_makeFunc); simp -dsimp (disch := try exact vD) only [push_cast, simprocAttr]; (repeat refine aI ?_); apply hK; clear hK K) | ((first | refine AL_guard rfl rfl (fun K1 K2 h1 h2 => ?_) rfl | refine AC_cond_k (fun K1 K2 h1 h2 => ?_)); simp -dsimp (disch := try exact vD) only [push_cast, simprocAttr]; (first | (refine ⟨fun hc => ?_, fun hc => ?_⟩ <;> first | (exfalso; omega) | (exfalso; contradiction) | refine h1 ?_ | refine h2 ?_) | refine h1 ?_ | refine h2 ?_); all_goals clear h1 h2 K1 K2) | apply AL_nil | apply Thn_normal | apply Thn_ret | apply Thn_exit | apply Blk_normal | apply Blk_ret | apply Blk_here | (refine Blk_other rfl ?_) | apply AC_block | apply AC_exit | apply AC_skip | apply AC_ret)
  all_goals first
    | (((refine Ends.frz 0 ?_; simp -dsimp (disch := try exact vD) only [push_cast, simprocAttr, Tryd.f28]; (repeat refine aI ?_); intro K hK; refine hK _ _ ?_; clear hK K); refine Ends.mk2 (by first | exact .inr rfl | exact .inl rfl) [] ?_; simp -dsimp (disch := try exact vD) only [push_cast, simprocAttr, Tryd.f28]; (repeat refine aI ?_); try (first | exact vI | fail)); done)
    | trace_state
end Go.Proofs.YtabafldpnkjboaaDoor
/- Ec3. -/
set_option linter.unusedVariables false
set_option linter.unusedSectionVars false
set_option linter.unusedSimpArgs false
set_option maxHeartbeats 2000000
set_option maxRecDepth 20000
namespace Go.Proofs.YtabafldpnkjboaaDoor
open Go Go.Sy Go.Bp
attribute [local irreducible] AO AL AC OpT ACall Ends DGo DRun Thn Blk Nxt
variable {z : Bool} {n i j m q s d L : Nat} {qs : List Nat}
instance : Cell1 Nat := ⟨fun x => .val (.int .u16 (U x)), fun _ => rfl, fun _ => rfl⟩
theorem c_Nat (x : Nat) : Cell1.c x = AV.val (.int .u16 (U x)) := rfl
theorem cX_oneN (x : Nat) : cX [x] = [AV.val (.int .u16 (U x))] := rfl
theorem cX_snocN (x : Nat) : cX qs ++ [AV.val (.int .u16 (U x))] = cX (qs ++ [x]) := by simp [cX, c_Nat]
def ixI (z : Bool) (F : Nat) (c1 : List AV) (p : Nat → Bool) (k : List Nat) (n : Nat) (j : {j : Nat // j ≤ n ∧ ∀ i, i < j → p (k.getD i default) = false}) : St :=
  ⟨19, 0, [(0,.isl z (cX k) n), (1,.fn F [.ipt c1 0]), (7,.val (.int .i64 n)), (8,.val (.int .i64 j.val))], []⟩
theorem idxX_ok {F : FuncId} [TPlain Tryd.prog F] {c1 : List AV} {k : List Nat} (p : Nat → Bool) (hl : k.length = n) (hn : n < 2^47) (hf : ∀ x, ACall Tryd.prog F [.val (.int .u16 (U x)), .ipt c1 0] [] 0 (.val (.bool (p x))) []) :
    ACall Tryd.prog 65 [.isl z (cX k) n, .fn F [.ipt c1 0]] [] 0 (.val (.int .i64 (ix p k))) [] := by
  refine ACall.enter Tryd.func65 rfl (by simp [Tryd.ntmps65]) (by simp) ?_; simp only [entry, idx, Tryd.ntmps65, List.length, List.map_cons, List.map_nil, List.append_nil, List.cons_append, List.nil_append, Nat.reduceAdd, Nat.zero_add, List.length_cons, List.length_nil]
  repeat' (first | (refine AC_loop_id ?_; refine AC_loop' [] ([].length) (ixI z F c1 p k n) (fun j => n - j.val) (⟨0, by omega, fun i hi => absurd hi (by omega)⟩) rfl (by unfold ixI; (try simp only [List.cons_append, List.nil_append]); refine Sub.mk2 ?_; (simp -dsimp (disch := try exact vD) only [push_cast, simprocAttr, c_Nat]); (repeat refine aI ?_); first | done | exact vI) ?_; (rintro ⟨j, hj, hnb⟩; (simp -dsimp (disch := try exact vD) only [push_cast, simprocAttr, ixI]))) | (refine Nxt_id ?_; refine Nxt.mk [] (⟨j + 1, by omega, nx_false hnb (by assumption)⟩) rfl (by unfold ixI; (try simp only [List.cons_append, List.nil_append]); refine Sub.mk2 ?_; (simp -dsimp (disch := try exact vD) only [push_cast, simprocAttr, c_Nat]); (repeat refine aI ?_); first | done | exact vI) (by first | omega | (dsimp only; omega) | (simp; done) | (simp; omega))) | apply AC_seq | apply AC_region_lit | ((first | refine AL_go rfl (fun K hK => ?_) | refine AL_go0 (fun K hK => ?_)); (first | refine R_callFnG (f := F) [] 0 false ?_); simp -dsimp (disch := try exact vD) only [push_cast, simprocAttr, c_Nat]; (repeat refine aI ?_); intro G hG; refine hG _ _ ?_; clear hG G; (first | refine ⟨_, _, hf (k.getD j default), ?_⟩); simp -dsimp (disch := try exact vD) only [push_cast, simprocAttr, c_Nat]; (repeat refine aI ?_); apply hK; clear hK K) | ((first | refine AL_go rfl (fun K hK => ?_) | refine AL_go0 (fun K hK => ?_)); (first | apply R_move | apply R_assign | apply Q_load | apply Q_loadAgg | apply Q_indexAddr | apply Q_indexArr | apply Q_len | apply Q_lenStr | apply Q_bin); simp -dsimp (disch := try exact vD) only [push_cast, simprocAttr, c_Nat]; (repeat refine aI ?_); apply hK; clear hK K) | ((first | refine AL_guard rfl rfl (fun K1 K2 h1 h2 => ?_) rfl | refine AC_cond_k (fun K1 K2 h1 h2 => ?_)); simp -dsimp (disch := try exact vD) only [push_cast, simprocAttr, c_Nat]; (first | (refine ⟨fun hc => ?_, fun hc => ?_⟩ <;> first | (exfalso; omega) | (exfalso; contradiction) | refine h1 ?_ | refine h2 ?_) | refine h1 ?_ | refine h2 ?_); all_goals clear h1 h2 K1 K2) | apply AL_nil | apply Thn_normal | apply Thn_ret | apply Thn_exit | apply Blk_normal | apply Blk_ret | apply Blk_here | (refine Blk_other rfl ?_) | apply AC_block | apply AC_exit | apply AC_skip | apply AC_ret)
  all_goals first
    | (have e : ix p k = j := ix_hit (by omega) hnb (by assumption); (refine Ends.mk2 (by first | exact .inr rfl | exact .inl rfl) [] ?_; simp -dsimp (disch := try exact vD) only [push_cast, simprocAttr, Tryd.f65, e]; (repeat refine aI ?_); try (first | exact vI | fail)); done)
    | (have ej : j = n := (by omega); subst ej; subst hl; have e : ix p k = -1 := ix_none hnb; (refine Ends.mk2 (by first | exact .inr rfl | exact .inl rfl) [] ?_; simp -dsimp (disch := try exact vD) only [push_cast, simprocAttr, Tryd.f65, e]; (repeat refine aI ?_); try (first | exact vI | fail)); done)
    | trace_state
theorem contX_ok {F : FuncId} [TPlain Tryd.prog F] {c1 : List AV} {k : List Nat} (p : Nat → Bool) (hl : k.length = n) (hn : n < 2^47) (hf : ∀ x, ACall Tryd.prog F [.val (.int .u16 (U x)), .ipt c1 0] [] 0 (.val (.bool (p x))) []) :
    ACall Tryd.prog 42 [.isl z (cX k) n, .fn F [.ipt c1 0]] [] 0 (.val (.bool (k.any p))) [] := by
  refine ACall.enter Tryd.func42 rfl (by simp [Tryd.ntmps42]) (by simp) ?_; simp only [entry, idx, Tryd.ntmps42, List.length, List.map_cons, List.map_nil, List.append_nil, List.cons_append, List.nil_append, Nat.reduceAdd, Nat.zero_add, List.length_cons, List.length_nil]
  repeat' (first | apply AC_seq | apply AC_region_lit | ((first | refine AL_go rfl (fun K hK => ?_) | refine AL_go0 (fun K hK => ?_)); (first | refine R_callG (f := 65) [] 0 false ?_); simp -dsimp (disch := try exact vD) only [push_cast, simprocAttr, ix_any]; (repeat refine aI ?_); intro G hG; refine hG _ _ ?_; clear hG G; (first | refine ⟨_, _, idxX_ok p hl hn hf, ?_⟩); simp -dsimp (disch := try exact vD) only [push_cast, simprocAttr, ix_any]; (repeat refine aI ?_); apply hK; clear hK K) | ((first | refine AL_go rfl (fun K hK => ?_) | refine AL_go0 (fun K hK => ?_)); (first | apply R_move | apply R_assign | apply Q_bin); simp -dsimp (disch := try exact vD) only [push_cast, simprocAttr, ix_any]; (repeat refine aI ?_); apply hK; clear hK K) | ((first | refine AL_guard rfl rfl (fun K1 K2 h1 h2 => ?_) rfl | refine AC_cond_k (fun K1 K2 h1 h2 => ?_)); simp -dsimp (disch := try exact vD) only [push_cast, simprocAttr, ix_any]; (first | (refine ⟨fun hc => ?_, fun hc => ?_⟩ <;> first | (exfalso; omega) | (exfalso; contradiction) | refine h1 ?_ | refine h2 ?_) | refine h1 ?_ | refine h2 ?_); all_goals clear h1 h2 K1 K2) | apply AL_nil | apply Thn_normal | apply Thn_ret | apply Thn_exit | apply Blk_normal | apply Blk_ret | apply Blk_here | (refine Blk_other rfl ?_) | apply AC_block | apply AC_exit | apply AC_skip | apply AC_ret)
  all_goals (refine Ends.mk2 (by first | exact .inr rfl | exact .inl rfl) [] ?_; simp -dsimp (disch := try exact vD) only [push_cast, simprocAttr, Tryd.f42, ix_any]; (repeat refine aI ?_); try (first | exact vI | fail))
end Go.Proofs.YtabafldpnkjboaaDoor
