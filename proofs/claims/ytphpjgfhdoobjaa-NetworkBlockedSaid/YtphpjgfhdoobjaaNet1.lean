/- The network: messages and packets; the small functions of the program's side. No condition. -/
import Derived.Test.YtphpjgfhdoobjaaTy
import Derived.Test.YtphpjgfhdoobjaaProg
set_option linter.unusedVariables false
set_option linter.unusedSectionVars false
set_option linter.unusedSimpArgs false
set_option maxHeartbeats 1000000
set_option maxRecDepth 20000
namespace Go.Proofs.Ytphpjgfhdoobjaa
open Go Go.Sy
attribute [local irreducible] AO AL AC OpT ACall Ends DGo DRun Thn Blk Nxt

/-- A slice of a message: it is only read. -/
structure Sl where
  z : Bool
  cs : List AV
  n : Nat
instance : Inhabited Sl := ⟨⟨true, [], 0⟩⟩
def Sl.av (s : Sl) : AV := .isl s.z s.cs s.n
theorem sl_av (s : Sl) : s.av = .isl s.z s.cs s.n := rfl
structure Msg where
  kind : Int
  fr : Int
  to : Int
  view : Int
  slot : Int
  value : ByteArray
  til : Int
  s1 : Int
  s2 : Int
  s3 : Int
  s4 : Int
  s5 : ByteArray
  s6 : ByteArray
  stat : Sl
  entr : Sl
  p1 : Int
  p2 : ByteArray
  p3 : Sl
  p4 : Sl
  p5 : Sl
  text : Sl
instance : Inhabited Msg := ⟨⟨0, 0, 0, 0, 0, ⟨#[]⟩, 0, 0, 0, 0, 0, ⟨#[]⟩, ⟨#[]⟩, default, default, 0, ⟨#[]⟩, default, default, default, default⟩⟩
def mC (m : Msg) : List AV := [.val (.int .i64 m.kind), .val (.int .i64 m.fr), .val (.int .i64 m.to), .val (.int .i64 m.view), .val (.int .i64 m.slot), .val (.string m.value), .val (.int .i64 m.til),
  .val (.int .i64 m.s1), .val (.int .i64 m.s2), .val (.int .i64 m.s3), .val (.int .i64 m.s4), .val (.string m.s5), .val (.string m.s6), .isl m.stat.z m.stat.cs m.stat.n, .isl m.entr.z m.entr.cs m.entr.n,
  .val (.int .i64 m.p1), .val (.string m.p2), .isl m.p3.z m.p3.cs m.p3.n, .isl m.p4.z m.p4.cs m.p4.n, .isl m.p5.z m.p5.cs m.p5.n, .isl m.text.z m.text.cs m.text.n]
structure Pk where
  id : Int
  fr : Int
  to : Int
  m : Msg
instance : Inhabited Pk := ⟨⟨0, 0, 0, default⟩⟩
def pC (p : Pk) : List AV := .val (.int .i64 p.id) :: .val (.int .i64 p.fr) :: .val (.int .i64 p.to) :: mC p.m
instance : Cells Pk 24 := ⟨pC, fun _ => rfl, fun _ => rfl, fun _ => rfl⟩
theorem pk_cells (p : Pk) : Cells.cells p = pC p := rfl
theorem pc_eq (p : Pk) : pC p = .val (.int .i64 p.id) :: .val (.int .i64 p.fr) :: .val (.int .i64 p.to) :: mC p.m := rfl
theorem mc_len (m : Msg) : (mC m).length = 21 := rfl
theorem mc_all (m : Msg) : (mC m).all AV.scalar = true := rfl
theorem mc_pl (m : Msg) : (mC m).all AV.plain = true := rfl
theorem mc_cl (m : Msg) (x : AV) (hx : x ∈ mC m) : bnd 0 x := plain_bnd x (List.all_eq_true.1 (mc_pl m) x hx)
theorem mc_ren (τ : Nat → Nat) (m : Msg) : (mC m).map (ren τ) = mC m := (List.map_congr_left (fun x hx => closed_ren τ x (mc_cl m x hx))).trans (List.map_id' _)
theorem mc_frz (id : Nat) (cs : List AV) (m : Msg) : (mC m).map (frzV id cs) = mC m := (List.map_congr_left (fun x hx => closed_frz id cs x (mc_cl m x hx))).trans (List.map_id' _)
theorem mc_toA {st : St} {σ : List Nat} {fz : Bool} {n : Nat} (h : 0 < n) (m : Msg) : (mC m).map (toA st σ fz n) = mC m := (List.map_congr_left (fun x hx => plain_toA h x (List.all_eq_true.1 (mc_pl m) x hx))).trans (List.map_id' _)
theorem mc_dfz {st : St} {σ : List Nat} {n : Nat} (h : 0 < n) (m : Msg) : (mC m).map (dfz st σ n) = mC m := (List.map_congr_left (fun x hx => plain_dfz h x (List.all_eq_true.1 (mc_pl m) x hx))).trans (List.map_id' _)
theorem mc_bnd (n : Nat) (m : Msg) : (∀ x ∈ mC m, bnd n x) = True := eq_true (fun x hx => closed_bnd n x (mc_cl m x hx))
theorem mc_take (m : Msg) : (mC m).take 21 = mC m := rfl
theorem mc_1 (m : Msg) : (mC m)[1]? = some (.val (.int .i64 m.fr)) := rfl
theorem mc_2 (m : Msg) : (mC m)[2]? = some (.val (.int .i64 m.to)) := rfl
theorem pc_len (p : Pk) : (pC p).length = 24 := rfl
theorem pc_all (p : Pk) : (pC p).all AV.scalar = true := rfl
theorem pc_pl (p : Pk) : (pC p).all AV.plain = true := rfl
theorem pc_cl (p : Pk) (x : AV) (hx : x ∈ pC p) : bnd 0 x := plain_bnd x (List.all_eq_true.1 (pc_pl p) x hx)
theorem pc_ren (τ : Nat → Nat) (p : Pk) : (pC p).map (ren τ) = pC p := (List.map_congr_left (fun x hx => closed_ren τ x (pc_cl p x hx))).trans (List.map_id' _)
theorem pc_frz (id : Nat) (cs : List AV) (p : Pk) : (pC p).map (frzV id cs) = pC p := (List.map_congr_left (fun x hx => closed_frz id cs x (pc_cl p x hx))).trans (List.map_id' _)
theorem pc_toA {st : St} {σ : List Nat} {fz : Bool} {n : Nat} (h : 0 < n) (p : Pk) : (pC p).map (toA st σ fz n) = pC p := (List.map_congr_left (fun x hx => plain_toA h x (List.all_eq_true.1 (pc_pl p) x hx))).trans (List.map_id' _)
theorem pc_dfz {st : St} {σ : List Nat} {n : Nat} (h : 0 < n) (p : Pk) : (pC p).map (dfz st σ n) = pC p := (List.map_congr_left (fun x hx => plain_dfz h x (List.all_eq_true.1 (pc_pl p) x hx))).trans (List.map_id' _)
theorem pc_bnd (n : Nat) (p : Pk) : (∀ x ∈ pC p, bnd n x) = True := eq_true (fun x hx => closed_bnd n x (pc_cl p x hx))
theorem pc_take (p : Pk) : (pC p).take 24 = pC p := rfl
theorem pc_0 (p : Pk) : (pC p)[0]? = some (.val (.int .i64 p.id)) := rfl
theorem pc_1 (p : Pk) : (pC p)[1]? = some (.val (.int .i64 p.fr)) := rfl
theorem pc_2 (p : Pk) : (pC p)[2]? = some (.val (.int .i64 p.to)) := rfl
theorem pc_4 (p : Pk) : (pC p)[4]? = some (.val (.int .i64 p.m.fr)) := rfl
theorem pc_5 (p : Pk) : (pC p)[5]? = some (.val (.int .i64 p.m.to)) := rfl
theorem pc_drop (p : Pk) : (pC p).drop 3 = mC p.m := rfl
theorem pc_spl {cs : List AV} (p : Pk) (h : cs.length = 24) : spl cs 0 (pC p) = pC p := spl_full (by rw [pc_len, h])
theorem mc_spl {cs : List AV} (m : Msg) (h : cs.length = 21) : spl cs 0 (mC m) = mC m := spl_full (by rw [mc_len, h])
theorem pc_put {cs : List AV} {off : Nat} (p : Pk) : putAV cs off (pC p) = spl cs off (pC p) := rfl
theorem mc_put {cs : List AV} {off : Nat} (m : Msg) : putAV cs off (mC m) = spl cs off (mC m) := rfl
theorem mc_spl3 {a b c : AV} {cs : List AV} (m : Msg) (h : cs.length = 21) : spl (a :: b :: c :: cs) 3 (mC m) = a :: b :: c :: mC m := by
  rw [spl_3, mc_spl m h]
variable {l0 : List Pk}
theorem pc_get (j : Nat) (h : j < l0.length) : (cR l0)[j * 24]? = some (.val (.int .i64 (l0.getD j default).id)) := by rw [cR_get' h (by decide)]; rfl
theorem pc_get1 (j : Nat) (h : j < l0.length) : (cR l0)[j * 24 + 1]? = some (.val (.int .i64 (l0.getD j default).fr)) := by rw [cR_get h (by decide)]; rfl
theorem pc_get2 (j : Nat) (h : j < l0.length) : (cR l0)[j * 24 + 2]? = some (.val (.int .i64 (l0.getD j default).to)) := by rw [cR_get h (by decide)]; rfl
attribute [push_cast] mc_len mc_all mc_ren mc_frz mc_toA mc_dfz mc_bnd mc_take mc_1 mc_2 pc_len pc_all pc_ren pc_frz pc_toA pc_dfz pc_bnd pc_take pc_0 pc_1 pc_2 pc_4 pc_5 pc_drop pc_spl mc_spl pk_cells pc_put mc_put mc_spl3
/-- The network: n parties, the next number, packets (nil at first), a map of links. -/
def netV (z : Bool) (n next : Int) (l : List Pk) : AV := .ipt [.val (.int .i64 n), .val (.int .i64 next), .isl z (cR l) l.length, .any] 0
variable {l : List Pk} {n next a b i : Int} {k len : Nat} {z : Bool} {m : Msg} {p : Pk}

theorem party_ok : ACall Try.prog 26 [.ipt [.val (.int .i64 n), .val (.int .i64 next), .isl z (cR l) len, .any] 0, .val (.int .i64 i)] [] 0 (.val (.bool (decide (0 ≤ i) && decide (i < n)))) [] := by
  refine ACall.enter Try.func26 rfl (by simp [Try.ntmps26]) (by simp) ?_
  simp only [entry, idx, Try.ntmps26, List.length, List.map_cons, List.map_nil, List.append_nil, List.cons_append, List.nil_append, Nat.reduceAdd, Nat.zero_add, List.length_cons, List.length_nil]
  repeat' (first
    | (refine AC_seq ?_)
    | (refine AC_region_lit ?_)
    | ((first | refine AL_go rfl (fun K hK => ?_) | refine AL_go0 (fun K hK => ?_))
       (first | refine R_move _ ?_ | refine R_assign _ ?_ | refine Q_load _ _ ?_ | refine Q_loadAgg _ _ ?_ | refine Q_fieldAddr _ _ _ ?_ | refine R_nilCheck _ ?_ | refine Q_pick _ _ _ ?_ | refine Q_bin _ _ _ _ _ ?_)
       simp (dsimp := false) (disch := first | exact vD | fail) only [push_cast, List.reduceReplicate, Nat.reduceAdd, Nat.reduceMul, Nat.reduceSub, Nat.reduceEqDiff, Nat.reduceLT, Nat.reduceLeDiff, Nat.reduceBEq, Int.reduceToNat, Int.reduceEq, Int.reduceLT, Int.reduceLE, Int.reduceAdd, Int.reduceSub, Int.reduceMul, ↓reduceIte, reduceCtorEq]
       (repeat (refine aI ?_)); (first | refine hK _ _ _ ?_ | refine hK _ _ ?_); clear hK K)
    | ((first | refine AL_guard rfl rfl (fun K1 K2 h1 h2 => ?_) rfl | refine AC_cond_k (fun K1 K2 h1 h2 => ?_))
       simp (dsimp := false) (disch := first | exact vD | fail) only [push_cast, List.reduceReplicate, Nat.reduceAdd, Nat.reduceMul, Nat.reduceSub, Nat.reduceEqDiff, Nat.reduceLT, Nat.reduceLeDiff, Nat.reduceBEq, Int.reduceToNat, Int.reduceEq, Int.reduceLT, Int.reduceLE, Int.reduceAdd, Int.reduceSub, Int.reduceMul, ↓reduceIte, reduceCtorEq]
       first | (refine ⟨fun hc => ?_, fun hc => ?_⟩ <;> first | (exfalso; omega) | (exfalso; contradiction) | refine h1 ?_ | refine h2 ?_) | refine h1 ?_ | refine h2 ?_
       all_goals clear h1 h2 K1 K2)
    | (refine AL_nil ?_) | (refine Thn_normal ?_) | (refine Thn_ret ?_) | (refine Thn_exit ?_) | (refine Blk_normal ?_) | (refine Blk_ret ?_) | (refine Blk_here ?_) | (refine Blk_other rfl ?_) | (refine AC_block ?_) | (refine AC_exit ?_) | (refine AC_skip ?_) | (refine AC_ret ?_))
  all_goals (refine Ends.mk2 (by first | exact .inr rfl | exact .inl rfl) [] ?_; simp (dsimp := false) (disch := first | exact vD | fail) only [push_cast, List.reduceReplicate, Nat.reduceAdd, Nat.reduceMul, Nat.reduceSub, Nat.reduceEqDiff, Nat.reduceLT, Nat.reduceLeDiff, Nat.reduceBEq, Int.reduceToNat, Int.reduceEq, Int.reduceLT, Int.reduceLE, Int.reduceAdd, Int.reduceSub, Int.reduceMul, ↓reduceIte, reduceCtorEq, Try.f26]; (repeat (refine aI ?_)); try (first | exact vI | fail))
theorem clone_n : ACall Try.prog 31 [.isl true [] 0] [] 0 (.isl true [] 0) [] := by
  refine ACall.enter Try.func31 rfl (by simp [Try.ntmps31]) (by simp) ?_
  simp only [entry, idx, Try.ntmps31, List.length, List.map_cons, List.map_nil, List.append_nil, List.cons_append, List.nil_append, Nat.reduceAdd, Nat.zero_add, List.length_cons, List.length_nil]
  repeat' (first
    | (refine AC_seq ?_)
    | (refine AC_region_lit ?_)
    | ((first | refine AL_go rfl (fun K hK => ?_) | refine AL_go0 (fun K hK => ?_))
       (first | refine R_move _ ?_ | refine R_assign _ ?_ | refine Q_buildSlice _ _ _ ?_ | refine Q_eqAgg _ _ _ _ ?_ | refine Q_neqAgg _ _ _ _ ?_ | refine Q_neqSelf _ _ _ _ ?_ | refine Q_bin _ _ _ _ _ ?_ | refine Q_appendNil _ _ _ ?_)
       simp (dsimp := false) (disch := first | exact vD | fail) only [push_cast, List.reduceReplicate, Nat.reduceAdd, Nat.reduceMul, Nat.reduceSub, Nat.reduceEqDiff, Nat.reduceLT, Nat.reduceLeDiff, Nat.reduceBEq, Int.reduceToNat, Int.reduceEq, Int.reduceLT, Int.reduceLE, Int.reduceAdd, Int.reduceSub, Int.reduceMul, ↓reduceIte, reduceCtorEq]
       (repeat (refine aI ?_)); (first | refine hK _ _ _ ?_ | refine hK _ _ ?_); clear hK K)
    | ((first | refine AL_go rfl (fun K hK => ?_) | refine AL_go0 (fun K hK => ?_))
       (first | refine Q_eqnil _ _ _ _ ?_ | refine Q_neqnil _ _ _ _ ?_ | refine Q_append _ _ _ ?_)
       simp (dsimp := false) (disch := first | exact vD | fail) only [push_cast, List.reduceReplicate, Nat.reduceAdd, Nat.reduceMul, Nat.reduceSub, Nat.reduceEqDiff, Nat.reduceLT, Nat.reduceLeDiff, Nat.reduceBEq, Int.reduceToNat, Int.reduceEq, Int.reduceLT, Int.reduceLE, Int.reduceAdd, Int.reduceSub, Int.reduceMul, ↓reduceIte, reduceCtorEq]
       (repeat (refine aI ?_)); (first | refine hK _ _ _ ?_ | refine hK _ _ ?_); clear hK K)
    | ((first | refine AL_go rfl (fun K hK => ?_) | refine AL_go0 (fun K hK => ?_))
       (first | refine Q_append00 _ _ _ ?_)
       simp (dsimp := false) (disch := first | exact vD | fail) only [push_cast, List.reduceReplicate, Nat.reduceAdd, Nat.reduceMul, Nat.reduceSub, Nat.reduceEqDiff, Nat.reduceLT, Nat.reduceLeDiff, Nat.reduceBEq, Int.reduceToNat, Int.reduceEq, Int.reduceLT, Int.reduceLE, Int.reduceAdd, Int.reduceSub, Int.reduceMul, ↓reduceIte, reduceCtorEq]
       (repeat (refine aI ?_)); (first | refine hK _ _ _ ?_ | refine hK _ _ ?_); clear hK K)
    | ((first | refine AL_go rfl (fun K hK => ?_) | refine AL_go0 (fun K hK => ?_))
       (first | refine Q_appendIn _ _ _ ?_)
       simp (dsimp := false) (disch := first | exact vD | fail) only [push_cast, List.reduceReplicate, Nat.reduceAdd, Nat.reduceMul, Nat.reduceSub, Nat.reduceEqDiff, Nat.reduceLT, Nat.reduceLeDiff, Nat.reduceBEq, Int.reduceToNat, Int.reduceEq, Int.reduceLT, Int.reduceLE, Int.reduceAdd, Int.reduceSub, Int.reduceMul, ↓reduceIte, reduceCtorEq]
       (repeat (refine aI ?_)); (first | refine hK _ _ _ ?_ | refine hK _ _ ?_); clear hK K)
    | ((first | refine AL_guard rfl rfl (fun K1 K2 h1 h2 => ?_) rfl | refine AC_cond_k (fun K1 K2 h1 h2 => ?_))
       simp (dsimp := false) (disch := first | exact vD | fail) only [push_cast, List.reduceReplicate, Nat.reduceAdd, Nat.reduceMul, Nat.reduceSub, Nat.reduceEqDiff, Nat.reduceLT, Nat.reduceLeDiff, Nat.reduceBEq, Int.reduceToNat, Int.reduceEq, Int.reduceLT, Int.reduceLE, Int.reduceAdd, Int.reduceSub, Int.reduceMul, ↓reduceIte, reduceCtorEq]
       first | (refine ⟨fun hc => ?_, fun hc => ?_⟩ <;> first | (exfalso; omega) | (exfalso; contradiction) | refine h1 ?_ | refine h2 ?_) | refine h1 ?_ | refine h2 ?_
       all_goals clear h1 h2 K1 K2)
    | (refine AL_nil ?_) | (refine Thn_normal ?_) | (refine Thn_ret ?_) | (refine Thn_exit ?_) | (refine Blk_normal ?_) | (refine Blk_ret ?_) | (refine Blk_here ?_) | (refine Blk_other rfl ?_) | (refine AC_block ?_) | (refine AC_exit ?_) | (refine AC_skip ?_) | (refine AC_ret ?_))
  all_goals (refine Ends.mk2 (by first | exact .inr rfl | exact .inl rfl) [] ?_; simp (dsimp := false) (disch := first | exact vD | fail) only [push_cast, List.reduceReplicate, Nat.reduceAdd, Nat.reduceMul, Nat.reduceSub, Nat.reduceEqDiff, Nat.reduceLT, Nat.reduceLeDiff, Nat.reduceBEq, Int.reduceToNat, Int.reduceEq, Int.reduceLT, Int.reduceLE, Int.reduceAdd, Int.reduceSub, Int.reduceMul, ↓reduceIte, reduceCtorEq, Try.f31]; (repeat (refine aI ?_)); try (first | exact vI | fail))
theorem clone_s (hn : l.length ≤ 2000) : ACall Try.prog 31 [.isl false (cR l) l.length] [] 0 (.sl 0 0 l.length 24) [.cells (cR l) 41] := by
  refine ACall.enter Try.func31 rfl (by simp [Try.ntmps31]) (by simp) ?_
  simp only [entry, idx, Try.ntmps31, List.length, List.map_cons, List.map_nil, List.append_nil, List.cons_append, List.nil_append, Nat.reduceAdd, Nat.zero_add, List.length_cons, List.length_nil]
  repeat' (first
    | (refine AC_seq ?_)
    | (refine AC_region_lit ?_)
    | ((first | refine AL_go rfl (fun K hK => ?_) | refine AL_go0 (fun K hK => ?_))
       (first | refine R_move _ ?_ | refine R_assign _ ?_ | refine Q_buildSlice _ _ _ ?_ | refine Q_eqAgg _ _ _ _ ?_ | refine Q_neqAgg _ _ _ _ ?_ | refine Q_neqSelf _ _ _ _ ?_ | refine Q_bin _ _ _ _ _ ?_ | refine Q_appendNil _ _ _ ?_)
       simp (dsimp := false) (disch := first | exact vD | fail) only [push_cast, List.reduceReplicate, Nat.reduceAdd, Nat.reduceMul, Nat.reduceSub, Nat.reduceEqDiff, Nat.reduceLT, Nat.reduceLeDiff, Nat.reduceBEq, Int.reduceToNat, Int.reduceEq, Int.reduceLT, Int.reduceLE, Int.reduceAdd, Int.reduceSub, Int.reduceMul, ↓reduceIte, reduceCtorEq]
       (repeat (refine aI ?_)); (first | refine hK _ _ _ ?_ | refine hK _ _ ?_); clear hK K)
    | ((first | refine AL_go rfl (fun K hK => ?_) | refine AL_go0 (fun K hK => ?_))
       (first | refine Q_eqnil _ _ _ _ ?_ | refine Q_neqnil _ _ _ _ ?_ | refine Q_append _ _ _ ?_)
       simp (dsimp := false) (disch := first | exact vD | fail) only [push_cast, List.reduceReplicate, Nat.reduceAdd, Nat.reduceMul, Nat.reduceSub, Nat.reduceEqDiff, Nat.reduceLT, Nat.reduceLeDiff, Nat.reduceBEq, Int.reduceToNat, Int.reduceEq, Int.reduceLT, Int.reduceLE, Int.reduceAdd, Int.reduceSub, Int.reduceMul, ↓reduceIte, reduceCtorEq]
       (repeat (refine aI ?_)); (first | refine hK _ _ _ ?_ | refine hK _ _ ?_); clear hK K)
    | ((first | refine AL_go rfl (fun K hK => ?_) | refine AL_go0 (fun K hK => ?_))
       (first | refine Q_append00 _ _ _ ?_)
       simp (dsimp := false) (disch := first | exact vD | fail) only [push_cast, List.reduceReplicate, Nat.reduceAdd, Nat.reduceMul, Nat.reduceSub, Nat.reduceEqDiff, Nat.reduceLT, Nat.reduceLeDiff, Nat.reduceBEq, Int.reduceToNat, Int.reduceEq, Int.reduceLT, Int.reduceLE, Int.reduceAdd, Int.reduceSub, Int.reduceMul, ↓reduceIte, reduceCtorEq]
       (repeat (refine aI ?_)); (first | refine hK _ _ _ ?_ | refine hK _ _ ?_); clear hK K)
    | ((first | refine AL_go rfl (fun K hK => ?_) | refine AL_go0 (fun K hK => ?_))
       (first | refine Q_appendIn _ _ _ ?_)
       simp (dsimp := false) (disch := first | exact vD | fail) only [push_cast, List.reduceReplicate, Nat.reduceAdd, Nat.reduceMul, Nat.reduceSub, Nat.reduceEqDiff, Nat.reduceLT, Nat.reduceLeDiff, Nat.reduceBEq, Int.reduceToNat, Int.reduceEq, Int.reduceLT, Int.reduceLE, Int.reduceAdd, Int.reduceSub, Int.reduceMul, ↓reduceIte, reduceCtorEq]
       (repeat (refine aI ?_)); (first | refine hK _ _ _ ?_ | refine hK _ _ ?_); clear hK K)
    | ((first | refine AL_guard rfl rfl (fun K1 K2 h1 h2 => ?_) rfl | refine AC_cond_k (fun K1 K2 h1 h2 => ?_))
       simp (dsimp := false) (disch := first | exact vD | fail) only [push_cast, List.reduceReplicate, Nat.reduceAdd, Nat.reduceMul, Nat.reduceSub, Nat.reduceEqDiff, Nat.reduceLT, Nat.reduceLeDiff, Nat.reduceBEq, Int.reduceToNat, Int.reduceEq, Int.reduceLT, Int.reduceLE, Int.reduceAdd, Int.reduceSub, Int.reduceMul, ↓reduceIte, reduceCtorEq]
       first | (refine ⟨fun hc => ?_, fun hc => ?_⟩ <;> first | (exfalso; omega) | (exfalso; contradiction) | refine h1 ?_ | refine h2 ?_) | refine h1 ?_ | refine h2 ?_
       all_goals clear h1 h2 K1 K2)
    | (refine AL_nil ?_) | (refine Thn_normal ?_) | (refine Thn_ret ?_) | (refine Thn_exit ?_) | (refine Blk_normal ?_) | (refine Blk_ret ?_) | (refine Blk_here ?_) | (refine Blk_other rfl ?_) | (refine AC_block ?_) | (refine AC_exit ?_) | (refine AC_skip ?_) | (refine AC_ret ?_))
  all_goals (refine Ends.mk2 (by first | exact .inr rfl | exact .inl rfl) [1] ?_; simp (dsimp := false) (disch := first | exact vD | fail) only [push_cast, List.reduceReplicate, Nat.reduceAdd, Nat.reduceMul, Nat.reduceSub, Nat.reduceEqDiff, Nat.reduceLT, Nat.reduceLeDiff, Nat.reduceBEq, Int.reduceToNat, Int.reduceEq, Int.reduceLT, Int.reduceLE, Int.reduceAdd, Int.reduceSub, Int.reduceMul, ↓reduceIte, reduceCtorEq, Try.f31]; (repeat (refine aI ?_)); try (first | exact vI | fail))

/-! ### the map of blocked links -/
def bV (f : List (List Int × Bool)) : List (List Int × AV) := f.map fun x => (x.1, .val (.bool x.2))
def asB : List (List Int × Bool) → List Int → Bool
  | [], _ => false
  | (k, v) :: l, x => if k = x then v else asB l x
def puB : List (List Int × Bool) → List Int → Bool → List (List Int × Bool)
  | [], x, v => [(x, v)]
  | (k, u) :: l, x, v => if k = x then (k, v) :: l else (k, u) :: puB l x v
variable {f : List (List Int × Bool)}
theorem bv_assoc {x : List Int} : (assoc (bV f) x).getD (.val (.bool false)) = .val (.bool (asB f x)) := by
  induction f with
  | nil => rfl
  | cons q f ih =>
    obtain ⟨k, v⟩ := q
    show (assoc ((k, .val (.bool v)) :: bV f) x).getD _ = _
    rw [assoc, asB]
    by_cases h : k = x
    · rw [if_pos h, if_pos h]; rfl
    · rw [if_neg h, if_neg h]; exact ih
theorem bv_put {x : List Int} {v : Bool} : putM (bV f) x (.val (.bool v)) = bV (puB f x v) := by
  induction f with
  | nil => rfl
  | cons q f ih =>
    obtain ⟨k, u⟩ := q
    show putM ((k, .val (.bool u)) :: bV f) x _ = _
    rw [putM, puB]
    by_cases h : k = x
    · rw [if_pos h, if_pos h]; rfl
    · rw [if_neg h, if_neg h, ih]; rfl
theorem as_put {x y : List Int} {v : Bool} : asB (puB f x v) y = if x = y then v else asB f y := by
  induction f with
  | nil => simp [puB, asB]
  | cons q f ih =>
    obtain ⟨k, u⟩ := q
    rw [puB]
    split
    · rename_i hk; subst hk
      simp only [asB]
      split <;> rfl
    · rename_i hk
      simp only [asB]
      split
      · rename_i hky; subst hky; rw [if_neg (Ne.symm hk)]
      · exact ih
theorem bv_map {g : AV → AV} (h : ∀ b, g (.val (.bool b)) = .val (.bool b)) : (bV f).map (fun x => (x.1, g x.2)) = bV f := by
  unfold bV; rw [List.map_map]; exact List.map_congr_left (fun x _ => by simp [h])
theorem bv_ren {τ : Nat → Nat} : (bV f).map (fun x => (x.1, ren τ x.2)) = bV f := bv_map (fun b => by simp [ren])
theorem bv_frz {id : Nat} {cs : List AV} : (bV f).map (fun x => (x.1, frzV id cs x.2)) = bV f := bv_map (fun b => by simp [frzV])
theorem bv_toA {st : St} {σ : List Nat} {fz : Bool} : (bV f).map (fun x => (x.1, toA st σ fz 8 x.2)) = bV f := bv_map (fun b => toA_val (by decide))
theorem bv_bnd {n : Nat} : (∀ x ∈ bV f, bnd n x.2) = True := eq_true (fun x hx => by
  obtain ⟨y, _, rfl⟩ := List.mem_map.1 hx
  simp [bnd])
theorem bv_noImm : (∀ x ∈ bV f, noImm x.2) = True := eq_true (fun x hx => by
  obtain ⟨y, _, rfl⟩ := List.mem_map.1 hx
  simp [noImm])
theorem bv_nil : ([] : List (List Int × AV)) = bV [] := rfl
attribute [push_cast] bv_assoc bv_put bv_ren bv_frz bv_toA bv_bnd bv_noImm
def n0 (n next : Int) (f : List (List Int × Bool)) : List AObj := [.cells [.val (.int .i64 n), .val (.int .i64 next), .isl true [] 0, .mp 1] 80, .map true 2 (bV f)]
def n1 (n next : Int) (l : List Pk) (f : List (List Int × Bool)) : List AObj := [.cells [.val (.int .i64 n), .val (.int .i64 next), .sl 2 0 l.length 24, .mp 1] 80, .map true 2 (bV f), .cells (cR l) 41]
theorem closed_0 {q : Pk} : ACall Try.prog 29 [.pt 0 0, .agg (pC q)] (n0 n next f) 2 (.val (.bool (asB f [q.fr, q.to]))) (n0 n next f) := by
  refine ACall.enter Try.func29 rfl (by simp [Try.ntmps29, n0]) (by simp [n0]) ?_
  simp only [entry, idx, n0, Try.ntmps29, List.length, List.map_cons, List.map_nil, List.append_nil, List.cons_append, List.nil_append, Nat.reduceAdd, Nat.zero_add, List.length_cons, List.length_nil]
  repeat' (first
    | (refine AC_seq ?_)
    | (refine AC_region_lit ?_)
    | ((first | refine AL_go rfl (fun K hK => ?_) | refine AL_go0 (fun K hK => ?_) | refine DG_run (fun K hK => ?_))
       (first | refine R_move _ ?_ | refine R_assign _ ?_ | refine Q_load _ _ ?_ | refine Q_loadAgg _ _ ?_ | refine Q_fieldAddr _ _ _ ?_ | refine R_nilCheck _ ?_ | refine Q_box _ _ ?_ | refine Q_build _ _ ?_ | refine Q_buildArr _ _ ?_ | refine Q_lookup _ _ _ ?_ | refine Q_lookupOk _ _ _ ?_)
       simp (dsimp := false) (disch := first | exact vD | fail) only [push_cast, List.reduceReplicate, Nat.reduceAdd, Nat.reduceMul, Nat.reduceSub, Nat.reduceEqDiff, Nat.reduceLT, Nat.reduceLeDiff, Nat.reduceBEq, Int.reduceToNat, Int.reduceEq, Int.reduceLT, Int.reduceLE, Int.reduceAdd, Int.reduceSub, Int.reduceMul, ↓reduceIte, reduceCtorEq, n0]
       (repeat (refine aI ?_)); (first | refine hK _ _ _ ?_ | refine hK _ _ ?_); clear hK K)
    | ((first | refine AL_guard rfl rfl (fun K1 K2 h1 h2 => ?_) rfl | refine AC_cond_k (fun K1 K2 h1 h2 => ?_) | refine DG_guard rfl rfl (fun K1 K2 h1 h2 => ?_))
       simp (dsimp := false) (disch := first | exact vD | fail) only [push_cast, List.reduceReplicate, Nat.reduceAdd, Nat.reduceMul, Nat.reduceSub, Nat.reduceEqDiff, Nat.reduceLT, Nat.reduceLeDiff, Nat.reduceBEq, Int.reduceToNat, Int.reduceEq, Int.reduceLT, Int.reduceLE, Int.reduceAdd, Int.reduceSub, Int.reduceMul, ↓reduceIte, reduceCtorEq, n0]
       first | (refine ⟨fun hc => ?_, fun hc => ?_⟩ <;> first | (exfalso; omega) | (exfalso; contradiction) | refine h1 ?_ | refine h2 ?_) | refine h1 ?_ | refine h2 ?_
       all_goals clear h1 h2 K1 K2)
    | (refine AC_draw (id := 1) (by kernel_rfl) [⟨0, [], [9, 10, 11, 12, 13], [], [], 0⟩, ⟨1, [0], [9, 10, 11, 12, 13], [], [], 0⟩, ⟨2, [0, 1], [9, 10, 11, 12, 13], [], [], 0⟩, ⟨3, [0, 1, 2], [9, 10, 11, 12, 13], [], [], 0⟩, ⟨4, [], [5, 6, 7, 8, 11, 12], [], [], 0⟩, ⟨5, [4], [5, 6, 7, 8, 11, 12], [], [], 0⟩, ⟨6, [], [5, 6, 7, 8, 9, 10], [], [], 0⟩, ⟨7, [6], [5, 6, 7, 8, 9, 10], [], [], 0⟩, ⟨8, [4, 5, 6, 7], [5, 6, 7, 8], [], [], 0⟩, ⟨9, [0, 1, 2, 3, 4, 5, 6, 7, 8], [], [], [], 0⟩, ⟨10, [0, 1, 2, 3, 4, 5, 6, 7, 8, 9], [], [], [], 0⟩] (by kernel_rfl) (by kernel_rfl) (by kernel_rfl) ?_)
    | ((first | refine DG_next' (by kernel_rfl) (fun K hK => ?_) | refine DG_nil (by kernel_rfl) (fun K hK => ?_))
       simp only [↓Go.Sy.dsnE_some, ↓Go.Sy.dsnE_none, ↓Go.Sy.dsnE_nil, ↓Go.Sy.dsnO_snoc, ↓Go.Sy.dsnO_nil, ↓Go.Sy.nidAt_snoc, ↓Go.Sy.nidAt_nil, push_cast, Nat.reduceLeDiff, Nat.reduceSub, Nat.reduceBEq, Nat.reduceEqDiff, Nat.reduceAdd, Nat.reduceLT, ↓reduceIte, reduceCtorEq]
       refine hK _ _ _ ?_; clear hK K)
    | (refine DG_go ?_)
    | (refine AL_nil ?_) | (refine Thn_normal ?_) | (refine Thn_ret ?_) | (refine Thn_exit ?_) | (refine Blk_normal ?_) | (refine Blk_ret ?_) | (refine Blk_here ?_) | (refine Blk_other rfl ?_) | (refine AC_block ?_) | (refine AC_exit ?_) | (refine AC_skip ?_) | (refine AC_ret ?_))
  all_goals (refine Ends.mk2 (by first | exact .inr rfl | exact .inl rfl) [0, 1] ?_; simp (dsimp := false) (disch := first | exact vD | fail) only [push_cast, List.reduceReplicate, Nat.reduceAdd, Nat.reduceMul, Nat.reduceSub, Nat.reduceEqDiff, Nat.reduceLT, Nat.reduceLeDiff, Nat.reduceBEq, Int.reduceToNat, Int.reduceEq, Int.reduceLT, Int.reduceLE, Int.reduceAdd, Int.reduceSub, Int.reduceMul, ↓reduceIte, reduceCtorEq, Try.f29, n0]; (repeat (refine aI ?_)); try (first | exact vI | fail))
theorem closed_1 {q : Pk} : ACall Try.prog 29 [.pt 0 0, .agg (pC q)] (n1 n next l f) 3 (.val (.bool (asB f [q.fr, q.to]))) (n1 n next l f) := by
  refine ACall.enter Try.func29 rfl (by simp [Try.ntmps29, n1]) (by simp [n1]) ?_
  simp only [entry, idx, n1, Try.ntmps29, List.length, List.map_cons, List.map_nil, List.append_nil, List.cons_append, List.nil_append, Nat.reduceAdd, Nat.zero_add, List.length_cons, List.length_nil]
  repeat' (first
    | (refine AC_seq ?_)
    | (refine AC_region_lit ?_)
    | ((first | refine AL_go rfl (fun K hK => ?_) | refine AL_go0 (fun K hK => ?_) | refine DG_run (fun K hK => ?_))
       (first | refine R_move _ ?_ | refine R_assign _ ?_ | refine Q_load _ _ ?_ | refine Q_loadAgg _ _ ?_ | refine Q_fieldAddr _ _ _ ?_ | refine R_nilCheck _ ?_ | refine Q_box _ _ ?_ | refine Q_build _ _ ?_ | refine Q_buildArr _ _ ?_ | refine Q_lookup _ _ _ ?_ | refine Q_lookupOk _ _ _ ?_)
       simp (dsimp := false) (disch := first | exact vD | fail) only [push_cast, List.reduceReplicate, Nat.reduceAdd, Nat.reduceMul, Nat.reduceSub, Nat.reduceEqDiff, Nat.reduceLT, Nat.reduceLeDiff, Nat.reduceBEq, Int.reduceToNat, Int.reduceEq, Int.reduceLT, Int.reduceLE, Int.reduceAdd, Int.reduceSub, Int.reduceMul, ↓reduceIte, reduceCtorEq, n1]
       (repeat (refine aI ?_)); (first | refine hK _ _ _ ?_ | refine hK _ _ ?_); clear hK K)
    | ((first | refine AL_guard rfl rfl (fun K1 K2 h1 h2 => ?_) rfl | refine AC_cond_k (fun K1 K2 h1 h2 => ?_) | refine DG_guard rfl rfl (fun K1 K2 h1 h2 => ?_))
       simp (dsimp := false) (disch := first | exact vD | fail) only [push_cast, List.reduceReplicate, Nat.reduceAdd, Nat.reduceMul, Nat.reduceSub, Nat.reduceEqDiff, Nat.reduceLT, Nat.reduceLeDiff, Nat.reduceBEq, Int.reduceToNat, Int.reduceEq, Int.reduceLT, Int.reduceLE, Int.reduceAdd, Int.reduceSub, Int.reduceMul, ↓reduceIte, reduceCtorEq, n1]
       first | (refine ⟨fun hc => ?_, fun hc => ?_⟩ <;> first | (exfalso; omega) | (exfalso; contradiction) | refine h1 ?_ | refine h2 ?_) | refine h1 ?_ | refine h2 ?_
       all_goals clear h1 h2 K1 K2)
    | (refine AC_draw (id := 1) (by kernel_rfl) [⟨0, [], [9, 10, 11, 12, 13], [], [], 0⟩, ⟨1, [0], [9, 10, 11, 12, 13], [], [], 0⟩, ⟨2, [0, 1], [9, 10, 11, 12, 13], [], [], 0⟩, ⟨3, [0, 1, 2], [9, 10, 11, 12, 13], [], [], 0⟩, ⟨4, [], [5, 6, 7, 8, 11, 12], [], [], 0⟩, ⟨5, [4], [5, 6, 7, 8, 11, 12], [], [], 0⟩, ⟨6, [], [5, 6, 7, 8, 9, 10], [], [], 0⟩, ⟨7, [6], [5, 6, 7, 8, 9, 10], [], [], 0⟩, ⟨8, [4, 5, 6, 7], [5, 6, 7, 8], [], [], 0⟩, ⟨9, [0, 1, 2, 3, 4, 5, 6, 7, 8], [], [], [], 0⟩, ⟨10, [0, 1, 2, 3, 4, 5, 6, 7, 8, 9], [], [], [], 0⟩] (by kernel_rfl) (by kernel_rfl) (by kernel_rfl) ?_)
    | ((first | refine DG_next' (by kernel_rfl) (fun K hK => ?_) | refine DG_nil (by kernel_rfl) (fun K hK => ?_))
       simp only [↓Go.Sy.dsnE_some, ↓Go.Sy.dsnE_none, ↓Go.Sy.dsnE_nil, ↓Go.Sy.dsnO_snoc, ↓Go.Sy.dsnO_nil, ↓Go.Sy.nidAt_snoc, ↓Go.Sy.nidAt_nil, push_cast, Nat.reduceLeDiff, Nat.reduceSub, Nat.reduceBEq, Nat.reduceEqDiff, Nat.reduceAdd, Nat.reduceLT, ↓reduceIte, reduceCtorEq]
       refine hK _ _ _ ?_; clear hK K)
    | (refine DG_go ?_)
    | (refine AL_nil ?_) | (refine Thn_normal ?_) | (refine Thn_ret ?_) | (refine Thn_exit ?_) | (refine Blk_normal ?_) | (refine Blk_ret ?_) | (refine Blk_here ?_) | (refine Blk_other rfl ?_) | (refine AC_block ?_) | (refine AC_exit ?_) | (refine AC_skip ?_) | (refine AC_ret ?_))
  all_goals (refine Ends.mk2 (by first | exact .inr rfl | exact .inl rfl) [0, 1, 2] ?_; simp (dsimp := false) (disch := first | exact vD | fail) only [push_cast, List.reduceReplicate, Nat.reduceAdd, Nat.reduceMul, Nat.reduceSub, Nat.reduceEqDiff, Nat.reduceLT, Nat.reduceLeDiff, Nat.reduceBEq, Int.reduceToNat, Int.reduceEq, Int.reduceLT, Int.reduceLE, Int.reduceAdd, Int.reduceSub, Int.reduceMul, ↓reduceIte, reduceCtorEq, Try.f29, n1]; (repeat (refine aI ?_)); try (first | exact vI | fail))
end Go.Proofs.Ytphpjgfhdoobjaa
