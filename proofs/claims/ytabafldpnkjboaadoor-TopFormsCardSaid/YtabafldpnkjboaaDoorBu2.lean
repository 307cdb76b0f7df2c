/- The builders: the threshold of some kids. No condition. -/
import Derived.Test.YtabafldpnkjboaaDoorExA
import Derived.Test.YtabafldpnkjboaaDoorBu1
set_option linter.unusedVariables false
set_option linter.unusedSectionVars false
set_option linter.unusedSimpArgs false
set_option maxHeartbeats 2000000
set_option maxRecDepth 20000
namespace Go.Proofs.YtabafldpnkjboaaDoor
open Go Go.Sy Go.Bp
attribute [local irreducible] AO AL AC OpT ACall Ends DGo DRun Thn Blk Nxt
variable {l k w : List Int} {z zk wz : Bool} {n K i j m : Nat} {a b : Int} {kids : List Ex} {need : Int} {t : Nd} {L : List Nd}
theorem tk_snoc {α : Type} {l : List α} {a : α} : (l ++ [a]).take (l.length + 1) = l ++ [a] := List.take_of_length_le (by simp)
structure KOk (kids : List Ex) : Prop where
  ne : ∀ x ∈ kids, x.nodes ≠ []
  nd : ∀ x ∈ kids, ∀ n ∈ x.nodes, (n.wz = true → n.w = []) ∧ (n.kz = true → n.k = []) ∧ n.w.length ≤ 1000 ∧ n.k.length ≤ 1000 ∧ ∀ y ∈ n.k, 0 ≤ y ∧ y ≤ 100000
  root : ∀ x ∈ kids, 0 ≤ x.root ∧ x.root ≤ 100000
  few : (nodesA [] kids).length ≤ 10000
  len : kids.length ≤ 1000
def NJ (kids : List Ex) (j : Nat) : List Nd := nodesA [] (kids.take j)
def RJ (kids : List Ex) (j : Nat) : List Int := rootsA 0 (kids.take j)
def xJ (kids : List Ex) (j : Nat) : Ex := kids.getD j default
def bNI (kids : List Ex) (j i : Nat) : List Nd := NJ kids j ++ (((xJ kids j).nodes.take i).map (sh (NJ kids j).length))
theorem xJ_def : kids.getD j default = xJ kids j := rfl
theorem xJ_drop : xJ (kids.drop j) i = xJ kids (j + i) := by simp [xJ, List.getD_eq_getElem?_getD]
theorem take_s (h : j < kids.length) : kids.take (j + 1) = kids.take j ++ [xJ kids j] := by
  rw [List.take_add_one]; simp [xJ, List.getD_eq_getElem?_getD, h]
theorem NJ_z (h : j = 0) : NJ kids j = [] := by subst h; rfl
theorem RJ_z (h : j = 0) : RJ kids j = [] := by subst h; rfl
theorem bNI_z (h : i = 0) : bNI kids j i = NJ kids j := by subst h; simp [bNI]
theorem bNI_0 : bNI kids j 0 = NJ kids j := bNI_z rfl
theorem NJ_0 : NJ kids 0 = [] := rfl
theorem bNI_nil (h : (NJ kids j).length + i = 0) : bNI kids j i = [] := by
  have h1 : NJ kids j = [] := List.eq_nil_of_length_eq_zero (by omega)
  have h2 : i = 0 := by omega
  rw [bNI_z h2, h1]
theorem bNI_all (hj : j < kids.length) (h : i = (xJ kids j).nodes.length) : bNI kids j i = NJ kids (j + 1) := by
  subst h; unfold bNI NJ; rw [List.take_length, take_s hj, nodesA_snoc]
theorem bNI_s (h : i < (xJ kids j).nodes.length) : bNI kids j (i + 1) = bNI kids j i ++ [sh (NJ kids j).length ((xJ kids j).nodes.getD i default)] := by
  unfold bNI
  rw [List.take_add_one, List.map_append, ← List.append_assoc]; simp [List.getD_eq_getElem?_getD, h]
theorem NJ_len : (NJ kids j).length = ((kids.take j).map fun x => x.nodes.length).sum := by rw [NJ, nodesA_len]; simp
theorem RJ_s (h : j < kids.length) : RJ kids (j + 1) = RJ kids j ++ [((NJ kids j).length : Int) + (xJ kids j).root] := by
  unfold RJ; rw [take_s h, rootsA_snoc, NJ_len, Nat.zero_add]
theorem RJ_len (h : j ≤ kids.length) : (RJ kids j).length = j := by rw [RJ, rootsA_len, List.length_take]; omega
theorem bNI_len (h : i ≤ (xJ kids j).nodes.length) : (bNI kids j i).length = (NJ kids j).length + i := by simp [bNI]; omega
theorem NJ_s_len (h : j < kids.length) : (NJ kids (j + 1)).length = (NJ kids j).length + (xJ kids j).nodes.length := by
  rw [← bNI_all h rfl, bNI_len (Nat.le_refl _)]
theorem xJ_mem (h : j < kids.length) : xJ kids j ∈ kids := by unfold xJ; rw [List.getD_eq_getElem?_getD, List.getElem?_eq_getElem h, Option.getD_some]; exact List.getElem_mem h
theorem NJ_pos (hk : KOk kids) (hj : 0 < j) (h : j ≤ kids.length) : 0 < (NJ kids j).length := by
  obtain ⟨j, rfl⟩ : ∃ i, j = i + 1 := ⟨j - 1, by omega⟩
  rw [NJ_s_len (by omega)]
  have := List.length_pos_iff.2 (hk.ne _ (xJ_mem (j := j) (by omega))); omega
theorem NJ_le (hk : KOk kids) (h : j ≤ kids.length) : (NJ kids j).length ≤ 10000 := by
  have h2 := hk.few
  rw [nodesA_len, List.length_nil, Nat.zero_add] at h2
  rw [NJ_len]
  refine Nat.le_trans ?_ h2
  rw [List.map_take]
  have := List.sum_append (l₁ := (kids.map fun x => x.nodes.length).take j) (l₂ := (kids.map fun x => x.nodes.length).drop j)
  rw [List.take_append_drop] at this; omega
theorem RJ_tk (h : j ≤ kids.length) : (RJ kids j).take j = RJ kids j := List.take_of_length_le (by rw [RJ_len h]; exact Nat.le_refl _)
theorem NJ_all (h : j = kids.length) : NJ kids j = nodesA [] kids := by subst h; simp [NJ]
theorem RJ_all (h : j = kids.length) : RJ kids j = rootsA 0 kids := by subst h; simp [RJ]
def kM (k : List Int) (b : Int) (m : Nat) : List Int := (k.take m).map (· + b) ++ k.drop m
theorem kM_z (h : m = 0) : kM k b m = k := by subst h; simp [kM]
theorem kM_len (h : m ≤ k.length) : (kM k b m).length = k.length := by simp [kM]; omega
theorem kM_get (h : m < k.length) : (kM k b m).getD m default = k.getD m default := by
  unfold kM; rw [List.getD_eq_getElem?_getD, List.getElem?_append_right (by simp; omega)]; simp [List.getD_eq_getElem?_getD, Nat.min_eq_left (Nat.le_of_lt h)]
theorem kM_at (h : m < k.length) : (kM k b m)[m]? = some (k.getD m default) := by
  rw [← kM_get (b := b) h, List.getElem?_eq_getElem (by rw [kM_len (Nat.le_of_lt h)]; exact h), List.getD_eq_getElem?_getD, List.getElem?_eq_getElem (by rw [kM_len (Nat.le_of_lt h)]; exact h), Option.getD_some]
theorem kM_set (h : m < k.length) : (kM k b m).set m (k.getD m default + b) = kM k b (m + 1) := by
  unfold kM
  have e : (List.drop m k).set 0 (k[m] + b) = (k[m] + b) :: List.drop (m + 1) k := by rw [List.drop_eq_getElem_cons h]; rfl
  rw [List.set_append_right _ _ (by simp; omega), List.take_add_one, List.map_append]
  simp [List.getD_eq_getElem?_getD, h, Nat.min_eq_left (Nat.le_of_lt h), e]
theorem kM_all (h : m = k.length) : kM k b m = k.map (· + b) := by subst h; simp [kM]
def thI (need : Int) (kids : List Ex) (zk wz : Bool) (w : List Int) (n K : Nat) (j : {j : Nat // j ≤ K}) : St :=
  ⟨86, 0, [(6,.pt 0 0), (7,.pt 1 0), (8,.pt 2 0), (19,.isl zk (cR kids) K), (20,.val (.int .i64 K)), (21,.val (.int .i64 j.val))],
   [(0, some (.cells [.isl true [] 0, .val (.int .i64 0)] 31)), (1, some (.cells [nilOr (NJ kids j.val).length 3 5, .val (.int .i64 0)] 31)),
    (2, some (.cells [.val (.int .i64 2), .val (.int .i64 0), .val (.int .i64 need), .isl wz (cI .i64 w) n, nilOr j.val 4 1] 64))] ++ nilOb (NJ kids j.val).length 3 (cR (NJ kids j.val)) 64 ++ nilOb j.val 4 (cI .i64 (RJ kids j.val)) 3⟩
def thJ (need : Int) (kids : List Ex) (zk wz : Bool) (w : List Int) (n K j : Nat) (i : {i : Nat // i ≤ (xJ kids j).nodes.length}) : St :=
  ⟨86, 0, [(6,.pt 0 0), (7,.pt 1 0), (8,.pt 2 0), (10,.pt 5 0), (11,.val (.int .i64 (NJ kids j).length)), (19,.isl zk (cR kids) K), (20,.val (.int .i64 K)), (21,.val (.int .i64 j)),
     (29,.isl (xJ kids j).nz (cR (xJ kids j).nodes) (xJ kids j).nodes.length), (30,.val (.int .i64 (xJ kids j).nodes.length)), (31,.val (.int .i64 i.val))],
   [(0, some (.cells [.isl true [] 0, .val (.int .i64 0)] 31)), (1, some (.cells [nilOr (bNI kids j i.val).length 3 5, .val (.int .i64 0)] 31)),
    (2, some (.cells [.val (.int .i64 2), .val (.int .i64 0), .val (.int .i64 need), .isl wz (cI .i64 w) n, nilOr j 4 1] 64)), (5, some (.cells (Cells.cells (xJ kids j)) 31))] ++ nilOb (bNI kids j i.val).length 3 (cR (bNI kids j i.val)) 64 ++ nilOb j 4 (cI .i64 (RJ kids j)) 3⟩
def thM (need : Int) (kids : List Ex) (zk wz : Bool) (w : List Int) (n K j i : Nat) (t : Nd) (m : {m : Nat // m ≤ t.k.length}) : St :=
  ⟨86, 0, [(6,.pt 0 0), (7,.pt 1 0), (8,.pt 2 0), (10,.pt 5 0), (11,.val (.int .i64 (NJ kids j).length)), (13,.pt 6 0), (19,.isl zk (cR kids) K), (20,.val (.int .i64 K)), (21,.val (.int .i64 j)),
     (29,.isl (xJ kids j).nz (cR (xJ kids j).nodes) (xJ kids j).nodes.length), (30,.val (.int .i64 (xJ kids j).nodes.length)), (31,.val (.int .i64 i)), (45,.val (.int .i64 t.k.length)), (46,.val (.int .i64 m.val))],
   [(0, some (.cells [.isl true [] 0, .val (.int .i64 0)] 31)), (1, some (.cells [nilOr (bNI kids j i).length 3 5, .val (.int .i64 0)] 31)),
    (2, some (.cells [.val (.int .i64 2), .val (.int .i64 0), .val (.int .i64 need), .isl wz (cI .i64 w) n, nilOr j 4 1] 64)), (5, some (.cells (Cells.cells (xJ kids j)) 31)),
    (6, some (.cells [.val (.int .i64 t.kind), .val (.int .i64 t.server), .val (.int .i64 t.need), .isl t.wz (cI .i64 t.w) t.w.length, .sl 7 0 t.k.length 1] 64)), (7, some (.cells (cI .i64 (kM t.k (NJ kids j).length m.val)) 3))] ++ nilOb (bNI kids j i).length 3 (cR (bNI kids j i)) 64 ++ nilOb j 4 (cI .i64 (RJ kids j)) 3⟩
def thZ (need : Int) (kids : List Ex) (zk wz : Bool) (w : List Int) (n K j i : Nat) (t : Nd) (m : {m : Nat // m = 0}) : St :=
  ⟨86, 0, [(6,.pt 0 0), (7,.pt 1 0), (8,.pt 2 0), (10,.pt 5 0), (11,.val (.int .i64 (NJ kids j).length)), (13,.pt 6 0), (19,.isl zk (cR kids) K), (20,.val (.int .i64 K)), (21,.val (.int .i64 j)),
     (29,.isl (xJ kids j).nz (cR (xJ kids j).nodes) (xJ kids j).nodes.length), (30,.val (.int .i64 (xJ kids j).nodes.length)), (31,.val (.int .i64 i)), (45,.val (.int .i64 0)), (46,.val (.int .i64 0))],
   [(0, some (.cells [.isl true [] 0, .val (.int .i64 0)] 31)), (1, some (.cells [nilOr (bNI kids j i).length 3 5, .val (.int .i64 0)] 31)),
    (2, some (.cells [.val (.int .i64 2), .val (.int .i64 0), .val (.int .i64 need), .isl wz (cI .i64 w) n, nilOr j 4 1] 64)), (5, some (.cells (Cells.cells (xJ kids j)) 31)),
    (6, some (.cells [.val (.int .i64 t.kind), .val (.int .i64 t.server), .val (.int .i64 t.need), .isl t.wz (cI .i64 t.w) t.w.length, .isl true [] 0] 64))] ++ nilOb (bNI kids j i).length 3 (cR (bNI kids j i)) 64 ++ nilOb j 4 (cI .i64 (RJ kids j)) 3⟩
theorem sh_eq {b : Int} : sh b t = ⟨t.kind, t.server, t.need, t.wz, t.w, t.kz, t.k.map (· + b)⟩ := rfl
structure TOk (t : Nd) : Prop where
  wz : t.wz = true → t.w = []
  kz : t.kz = true → t.k = []
  wl : t.w.length ≤ 1000
  kl : t.k.length ≤ 1000
  ky : ∀ m, m < t.k.length → 0 ≤ t.k.getD m default ∧ t.k.getD m default ≤ 100000
theorem nd_at (hk : KOk kids) (hj : j < kids.length) (hi : i < (xJ kids j).nodes.length) : TOk ((xJ kids j).nodes.getD i default) := by
  obtain ⟨h1, h2, h3, h4, h5⟩ := hk.nd _ (xJ_mem hj) _ (getD_mem (d := default) hi)
  exact ⟨h1, h2, h3, h4, fun m hm => h5 _ (getD_mem hm)⟩
theorem NJ_q (hk : KOk kids) (h : j ≤ kids.length) : (j = 0 ∧ (NJ kids j).length = 0) ∨ (0 < j ∧ 0 < (NJ kids j).length) := by
  rcases Nat.eq_zero_or_pos j with h0 | h0
  · exact .inl ⟨h0, by rw [NJ_z h0]; rfl⟩
  · exact .inr ⟨h0, NJ_pos hk h0 h⟩
theorem thr_raw (hk : KOk kids) (hK : kids.length = K) (hw : w.length = n) (hn : n ≤ 1000) (hz : wz = true → w = []) :
    ACall Tryd.prog 47 [.val (.int .i64 need), .isl zk (cR kids) K, .isl wz (cI .i64 w) n] [] 0
      (.agg [.isl false (cR (NJ kids K ++ [⟨2, 0, need, wz, w, K == 0, RJ kids K⟩])) ((NJ kids K).length + 1), .val (.int .i64 (NJ kids K).length)]) [] := by
  have hkl := hk.len
  have hNl := fun (j : Nat) (h : j ≤ K) => NJ_le hk (j := j) (by omega)
  have hNq := fun (j : Nat) (h : j ≤ K) => NJ_q hk (j := j) (by omega)
  have hNs := fun (j : Nat) (h : j < K) => NJ_s_len (kids := kids) (j := j) (by omega)
  have hxn := fun (j i : Nat) (h : j < K) (hi : i < (xJ kids j).nodes.length) => nd_at hk (j := j) (i := i) (by omega) hi
  have hxr := fun (j : Nat) (h : j < K) => hk.root _ (xJ_mem (j := j) (by omega))
  have hn1 := dmy_def; have hn2 := dmy_def; have hn3 := dmy_def
  refine ACall.enter Tryd.func47 rfl (by simp [Tryd.ntmps47]) (by simp) ?_; simp only [entry, idx, Tryd.ntmps47, List.length, List.map_cons, List.map_nil, List.append_nil, List.cons_append, List.nil_append, Nat.reduceAdd, Nat.zero_add, List.length_cons, List.length_nil]
  repeat' (first | ((first | refine AC_frzS (r := 17) 7 ?_ | refine AC_frzR (r := 17) 7 ?_); simp -dsimp (disch := try exact vD) only [push_cast, simprocAttr, hn1, hn2, hn3, xJ_def, xJ_drop, bNI_s, bNI_0, bNI_nil, bNI_all, NJ_0, RJ_z, RJ_s, RJ_len, RJ_tk, bNI_len, kM_z, kM_len, kM_get, kM_at, kM_set, nd_snoc_z, kM_all, sh_eq, tk_snoc]; (repeat refine aI ?_); intro K hK; refine hK _ _ ?_; clear hK K) | ((first | refine AC_frzS (r := 22) 4 ?_ | refine AC_frzR (r := 22) 4 ?_); simp -dsimp (disch := try exact vD) only [push_cast, simprocAttr, hn1, hn2, hn3, xJ_def, xJ_drop, bNI_s, bNI_0, bNI_nil, bNI_all, NJ_0, RJ_z, RJ_s, RJ_len, RJ_tk, bNI_len, kM_z, kM_len, kM_get, kM_at, kM_set, nd_snoc_z, kM_all, sh_eq, tk_snoc]; (repeat refine aI ?_); intro K hK; refine hK _ _ ?_; clear hK K) | (refine AC_loop_id ?_; refine AC_loop' [0,1,2,3,4,5,6] ([0,1,2,3,4,5,6].length) (thZ need kids zk wz w n K j i t) (fun m => m.val) (⟨0, by omega⟩) rfl (by unfold thZ; (try simp only [List.cons_append, List.nil_append]); refine Sub.mk2 ?_; (simp -dsimp (disch := try exact vD) only [push_cast, simprocAttr, hn1, hn2, hn3, xJ_def, xJ_drop, bNI_s, bNI_0, bNI_nil, bNI_all, NJ_0, RJ_z, RJ_s, RJ_len, RJ_tk, bNI_len, kM_z, kM_len, kM_get, kM_at, kM_set, nd_snoc_z, kM_all, sh_eq, tk_snoc]); (repeat refine aI ?_); first | done | exact vI) ?_; (rintro ⟨m, hm⟩; (simp -dsimp (disch := try exact vD) only [push_cast, simprocAttr, thZ]))) | (refine AC_loop_id ?_; refine AC_loop' [0,1,2,3,4,5,6,7] ([0,1,2,3,4,5,6,7].length) (thM need kids zk wz w n K j i t) (fun m => t.k.length - m.val) (⟨0, by omega⟩) rfl (by unfold thM; (try simp only [List.cons_append, List.nil_append]); refine Sub.mk2 ?_; (simp -dsimp (disch := try exact vD) only [push_cast, simprocAttr, hn1, hn2, hn3, xJ_def, xJ_drop, bNI_s, bNI_0, bNI_nil, bNI_all, NJ_0, RJ_z, RJ_s, RJ_len, RJ_tk, bNI_len, kM_z, kM_len, kM_get, kM_at, kM_set, nd_snoc_z, kM_all, sh_eq, tk_snoc]); (repeat refine aI ?_); first | done | exact vI) ?_; (rintro ⟨m, hm⟩; have hky := htk m; rcases Nat.lt_or_eq_of_le hm with hml | hml <;> (simp -dsimp (disch := try exact vD) only [push_cast, simprocAttr, thM]))) | (refine Nxt_id ?_; refine Nxt.mk [0,1,2,3,4,5,6,7] (⟨m + 1, by omega⟩) rfl (by unfold thM; (try simp only [List.cons_append, List.nil_append]); refine Sub.mk2 ?_; (simp -dsimp (disch := try exact vD) only [push_cast, simprocAttr, hn1, hn2, hn3, xJ_def, xJ_drop, bNI_s, bNI_0, bNI_nil, bNI_all, NJ_0, RJ_z, RJ_s, RJ_len, RJ_tk, bNI_len, kM_z, kM_len, kM_get, kM_at, kM_set, nd_snoc_z, kM_all, sh_eq, tk_snoc]); (repeat refine aI ?_); first | done | exact vI) (by first | omega | (dsimp only; omega) | (simp; done) | (simp; omega))) | (refine AC_loop_id ?_; refine AC_loop' [0,1,2,3,4,5] ([0,1,2,3,4,5].length) (thJ need kids zk wz w n K j) (fun i => (xJ kids j).nodes.length - i.val) (⟨0, by omega⟩) rfl (by unfold thJ; (try simp only [List.cons_append, List.nil_append]); refine Sub.mk2 ?_; (simp -dsimp (disch := try exact vD) only [push_cast, simprocAttr, hn1, hn2, hn3, xJ_def, xJ_drop, bNI_s, bNI_0, bNI_nil, bNI_all, NJ_0, RJ_z, RJ_s, RJ_len, RJ_tk, bNI_len, kM_z, kM_len, kM_get, kM_at, kM_set, nd_snoc_z, kM_all, sh_eq, tk_snoc]); (repeat refine aI ?_); first | done | exact vI) ?_; (rintro ⟨i, hi⟩; rcases Nat.lt_or_eq_of_le hi with hil | hil <;> first | (have hi1 := hil; have ht := hxn j i hjl hil; generalize hn1 : (xJ kids j).nodes.getD i default = t at ht; have htw := ht.wz; have htk := ht.ky; have htl := ht.kl; have htm := ht.wl; have htz := ht.kz; rcases Bool.eq_false_or_eq_true t.kz with hn2 | hn2 <;> rcases Nat.eq_zero_or_pos ((NJ kids j).length + i) with hN | hN <;> first | (have hn3 := htz hn2; (simp -dsimp (disch := try exact vD) only [push_cast, simprocAttr, thJ])) | (simp -dsimp (disch := try exact vD) only [push_cast, simprocAttr, thJ])) | (have hN : 0 < (NJ kids j).length + i := (by omega); (simp -dsimp (disch := try exact vD) only [push_cast, simprocAttr, thJ])))) | (refine Nxt_id ?_; refine Nxt.mk [0,1,2,9,4,5] (⟨i + 1, by omega⟩) rfl (by unfold thJ; (try simp only [List.cons_append, List.nil_append]); refine Sub.mk2 ?_; (simp -dsimp (disch := try exact vD) only [push_cast, simprocAttr, hn1, hn2, hn3, xJ_def, xJ_drop, bNI_s, bNI_0, bNI_nil, bNI_all, NJ_0, RJ_z, RJ_s, RJ_len, RJ_tk, bNI_len, kM_z, kM_len, kM_get, kM_at, kM_set, nd_snoc_z, kM_all, sh_eq, tk_snoc]); (repeat refine aI ?_); first | done | exact vI) (by first | omega | (dsimp only; omega) | (simp; done) | (simp; omega))) | (refine Nxt_id ?_; refine Nxt.mk [0,1,2,8,4,5] (⟨i + 1, by omega⟩) rfl (by unfold thJ; (try simp only [List.cons_append, List.nil_append]); refine Sub.mk2 ?_; (simp -dsimp (disch := try exact vD) only [push_cast, simprocAttr, hn1, hn2, hn3, xJ_def, xJ_drop, bNI_s, bNI_0, bNI_nil, bNI_all, NJ_0, RJ_z, RJ_s, RJ_len, RJ_tk, bNI_len, kM_z, kM_len, kM_get, kM_at, kM_set, nd_snoc_z, kM_all, sh_eq, tk_snoc]); (repeat refine aI ?_); first | done | exact vI) (by first | omega | (dsimp only; omega) | (simp; done) | (simp; omega))) | (refine AC_loop_id ?_; refine AC_loop' [0,1,2,90,91] ([0,1,2,90,91].length) (thI need kids zk wz w n K) (fun j => K - j.val) (⟨0, by omega⟩) rfl (by unfold thI; (try simp only [List.cons_append, List.nil_append]); refine Sub.mk2 ?_; (simp -dsimp (disch := try exact vD) only [push_cast, simprocAttr, hn1, hn2, hn3, xJ_def, xJ_drop, bNI_s, bNI_0, bNI_nil, bNI_all, NJ_0, RJ_z, RJ_s, RJ_len, RJ_tk, bNI_len, kM_z, kM_len, kM_get, kM_at, kM_set, nd_snoc_z, kM_all, sh_eq, tk_snoc]); (repeat refine aI ?_); first | done | exact vI) ?_; (rintro ⟨j, hj⟩; have hj1 := hNl j hj; have hjq := hNq j hj; rcases Nat.lt_or_eq_of_le hj with hjl | hjl <;> first | (have ej : K = j := hjl.symm; subst ej; have hRl := RJ_len (kids := kids) (j := K) (by omega); rcases Nat.eq_zero_or_pos K with h0 | h0 <;> (simp -dsimp (disch := try exact vD) only [push_cast, simprocAttr, thI])) | (have hj2 := hNs j hjl; have hj3 := hNl (j + 1) hjl; have hj4 := hxr j hjl; have hj5 := List.length_pos_iff.2 (hk.ne _ (xJ_mem (j := j) (by omega))); rcases Nat.eq_zero_or_pos j with h0 | h0 <;> (simp -dsimp (disch := try exact vD) only [push_cast, simprocAttr, thI])))) | (refine Nxt_id ?_; refine Nxt.mk [0,1,2,3,7] (⟨j + 1, by omega⟩) rfl (by unfold thI; (try simp only [List.cons_append, List.nil_append]); refine Sub.mk2 ?_; (simp -dsimp (disch := try exact vD) only [push_cast, simprocAttr, hn1, hn2, hn3, xJ_def, xJ_drop, bNI_s, bNI_0, bNI_nil, bNI_all, NJ_0, RJ_z, RJ_s, RJ_len, RJ_tk, bNI_len, kM_z, kM_len, kM_get, kM_at, kM_set, nd_snoc_z, kM_all, sh_eq, tk_snoc]); (repeat refine aI ?_); first | done | exact vI) (by first | omega | (dsimp only; omega) | (simp; done) | (simp; omega))) | apply AC_seq | apply AC_region_lit | ((first | refine AL_go rfl (fun K hK => ?_) | refine AL_go0 (fun K hK => ?_)); (first | refine R_callG (f := 36) (dst := some 17) [] 0 false ?_ | refine R_callG (f := 36) (dst := some 37) [] 0 false ?_); simp -dsimp (disch := try exact vD) only [push_cast, simprocAttr, hn1, hn2, hn3, xJ_def, xJ_drop, bNI_s, bNI_0, bNI_nil, bNI_all, NJ_0, RJ_z, RJ_s, RJ_len, RJ_tk, bNI_len, kM_z, kM_len, kM_get, kM_at, kM_set, nd_snoc_z, kM_all, sh_eq, tk_snoc]; (repeat refine aI ?_); intro G hG; refine hG _ _ ?_; clear hG G; (first | refine ⟨_, _, clone_f hw (by omega) hz, ?_⟩ | refine ⟨_, _, clone_f (z := t.wz) (l := t.w) rfl (by omega) htw, ?_⟩); simp -dsimp (disch := try exact vD) only [push_cast, simprocAttr, hn1, hn2, hn3, xJ_def, xJ_drop, bNI_s, bNI_0, bNI_nil, bNI_all, NJ_0, RJ_z, RJ_s, RJ_len, RJ_tk, bNI_len, kM_z, kM_len, kM_get, kM_at, kM_set, nd_snoc_z, kM_all, sh_eq, tk_snoc]; (repeat refine aI ?_); apply hK; clear hK K) | ((first | refine AL_go rfl (fun K hK => ?_) | refine AL_go0 (fun K hK => ?_)); (first | (refine R_callG (f := 36) (dst := some 41) [] 0 false ?_; simp -dsimp (disch := try exact vD) only [push_cast, simprocAttr, hn1, hn2, hn3, xJ_def, xJ_drop, bNI_s, bNI_0, bNI_nil, bNI_all, NJ_0, RJ_z, RJ_s, RJ_len, RJ_tk, bNI_len, kM_z, kM_len, kM_get, kM_at, kM_set, nd_snoc_z, kM_all, sh_eq, tk_snoc]; (repeat refine aI ?_); intro G hG; refine hG _ _ ?_; clear hG G; refine ⟨_, _, clone_s (l := t.k) rfl (by omega), ?_⟩; simp -dsimp (disch := try exact vD) only [push_cast, simprocAttr, hn1, hn2, hn3, xJ_def, xJ_drop, bNI_s, bNI_0, bNI_nil, bNI_all, NJ_0, RJ_z, RJ_s, RJ_len, RJ_tk, bNI_len, kM_z, kM_len, kM_get, kM_at, kM_set, nd_snoc_z, kM_all, sh_eq, tk_snoc]; (repeat refine aI ?_); apply hK; clear hK K) | (refine R_callG (f := 36) (dst := some 41) [] 0 false ?_; simp -dsimp (disch := try exact vD) only [push_cast, simprocAttr, hn1, hn2, hn3, xJ_def, xJ_drop, bNI_s, bNI_0, bNI_nil, bNI_all, NJ_0, RJ_z, RJ_s, RJ_len, RJ_tk, bNI_len, kM_z, kM_len, kM_get, kM_at, kM_set, nd_snoc_z, kM_all, sh_eq, tk_snoc]; (repeat refine aI ?_); intro G hG; refine hG _ _ ?_; clear hG G; refine ⟨_, _, clone_z, ?_⟩; simp -dsimp (disch := try exact vD) only [push_cast, simprocAttr, hn1, hn2, hn3, xJ_def, xJ_drop, bNI_s, bNI_0, bNI_nil, bNI_all, NJ_0, RJ_z, RJ_s, RJ_len, RJ_tk, bNI_len, kM_z, kM_len, kM_get, kM_at, kM_set, nd_snoc_z, kM_all, sh_eq, tk_snoc]; (repeat refine aI ?_); apply hK; clear hK K))) | ((first | refine AL_go rfl (fun K hK => ?_) | refine AL_go0 (fun K hK => ?_)); (first | apply R_move | apply R_assign | apply Q_load | apply Q_loadAgg | apply Q_fieldAddr | apply Q_indexAddr | apply Q_indexArr | apply Q_len | apply Q_lenStr | apply R_alloc | apply Q_store | apply Q_build | apply Q_buildArr | apply Q_buildSlice | apply Q_bin | apply Q_appendNil); simp -dsimp (disch := try exact vD) only [push_cast, simprocAttr, hn1, hn2, hn3, xJ_def, xJ_drop, bNI_s, bNI_0, bNI_nil, bNI_all, NJ_0, RJ_z, RJ_s, RJ_len, RJ_tk, bNI_len, kM_z, kM_len, kM_get, kM_at, kM_set, nd_snoc_z, kM_all, sh_eq, tk_snoc]; (repeat refine aI ?_); apply hK; clear hK K) | ((first | refine AL_go rfl (fun K hK => ?_) | refine AL_go0 (fun K hK => ?_)); (first | apply Q_append); simp -dsimp (disch := try exact vD) only [push_cast, simprocAttr, hn1, hn2, hn3, xJ_def, xJ_drop, bNI_s, bNI_0, bNI_nil, bNI_all, NJ_0, RJ_z, RJ_s, RJ_len, RJ_tk, bNI_len, kM_z, kM_len, kM_get, kM_at, kM_set, nd_snoc_z, kM_all, sh_eq, tk_snoc]; (repeat refine aI ?_); apply hK; clear hK K) | ((first | refine AL_go rfl (fun K hK => ?_) | refine AL_go0 (fun K hK => ?_)); (first | apply Q_append00); simp -dsimp (disch := try exact vD) only [push_cast, simprocAttr, hn1, hn2, hn3, xJ_def, xJ_drop, bNI_s, bNI_0, bNI_nil, bNI_all, NJ_0, RJ_z, RJ_s, RJ_len, RJ_tk, bNI_len, kM_z, kM_len, kM_get, kM_at, kM_set, nd_snoc_z, kM_all, sh_eq, tk_snoc]; (repeat refine aI ?_); apply hK; clear hK K) | ((first | refine AL_go rfl (fun K hK => ?_) | refine AL_go0 (fun K hK => ?_)); (first | apply Q_appendIn); simp -dsimp (disch := try exact vD) only [push_cast, simprocAttr, hn1, hn2, hn3, xJ_def, xJ_drop, bNI_s, bNI_0, bNI_nil, bNI_all, NJ_0, RJ_z, RJ_s, RJ_len, RJ_tk, bNI_len, kM_z, kM_len, kM_get, kM_at, kM_set, nd_snoc_z, kM_all, sh_eq, tk_snoc]; (repeat refine aI ?_); apply hK; clear hK K) | ((first | refine AL_guard rfl rfl (fun K1 K2 h1 h2 => ?_) rfl | refine AC_cond_k (fun K1 K2 h1 h2 => ?_)); simp -dsimp (disch := try exact vD) only [push_cast, simprocAttr, hn1, hn2, hn3, xJ_def, xJ_drop, bNI_s, bNI_0, bNI_nil, bNI_all, NJ_0, RJ_z, RJ_s, RJ_len, RJ_tk, bNI_len, kM_z, kM_len, kM_get, kM_at, kM_set, nd_snoc_z, kM_all, sh_eq, tk_snoc]; (first | (refine ⟨fun hc => ?_, fun hc => ?_⟩ <;> first | (exfalso; omega) | (exfalso; contradiction) | refine h1 ?_ | refine h2 ?_) | refine h1 ?_ | refine h2 ?_); all_goals clear h1 h2 K1 K2) | apply AL_nil | apply Thn_normal | apply Thn_ret | apply Thn_exit | apply Blk_normal | apply Blk_ret | apply Blk_here | (refine Blk_other rfl ?_) | apply AC_block | apply AC_exit | apply AC_skip | apply AC_ret)
  all_goals ((refine Ends.frz 6 ?_; simp -dsimp (disch := try exact vD) only [push_cast, simprocAttr, Tryd.f47, tk_snoc, beq_s, NJ_z, RJ_z]; (repeat refine aI ?_); intro K hK; refine hK _ _ ?_; clear hK K); refine Ends.mk2 (by first | exact .inr rfl | exact .inl rfl) [] ?_; simp -dsimp (disch := try exact vD) only [push_cast, simprocAttr, Tryd.f47, tk_snoc, beq_s, NJ_z, RJ_z]; (repeat refine aI ?_); try (first | exact vI | fail))
end Go.Proofs.YtabafldpnkjboaaDoor
