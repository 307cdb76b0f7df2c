/- Build: the laws of sites and compositions. No condition. -/
import Derived.Test.YtdeligopifoceaaDoorLawBA
import Derived.Test.YtdeligopifoceaaDoorBu25
import Derived.Test.YtdeligopifoceaaDoorBu28
import Derived.Test.YtdeligopifoceaaDoorBu31
set_option linter.unusedVariables false
set_option linter.unusedSectionVars false
set_option linter.unusedSimpArgs false
set_option linter.unnecessarySimpa false
set_option maxHeartbeats 2000000
set_option maxRecDepth 20000
namespace Go.Proofs.YtdeligopifoceaaDoor
open Go Go.Sy Go.Bp
attribute [local irreducible] AO AL AC OpT ACall Ends DGo DRun Thn Blk Nxt
variable {x y o : Ex} {s n c i j m : Nat} {a b q : Int} {ss : List IL} {k : List Ex} {z zl : Bool}
theorem sh_sitesE (hs : Sh ss) (hn : ss.length ≤ 400) : Short (sitesE a q ss).1 := by
  unfold sitesE
  split
  · exact short_dflt
  · split
    · exact short_dflt
    · split
      · exact short_dflt
      · refine XF_short (XF_thr (b := 21) (c := 400) (fun x hx => ?_) (by rw [siteK_len]; exact hn) (by omega) (fun _ => rfl) (by simp)) (by omega)
        obtain ⟨i, hi, rfl⟩ := List.mem_map.1 hx
        have h1 := hs i (List.mem_range.1 hi)
        exact XF_thr (b := 1) (c := 20) (fun y hy => by obtain ⟨u, _, rfl⟩ := List.mem_map.1 hy; exact XF_srv u) (by rw [servs_len]; exact h1) (by omega) (fun _ => rfl) (by simp)
theorem fewS_sh (h : fewS ss = true) : Sh ss ∧ ss.length ≤ 20 := by
  simp only [fewS, Bool.and_eq_true, decide_eq_true_eq, List.all_eq_true] at h
  exact ⟨fun j hj => h.1 _ (getD_mem (d := default) hj), h.2⟩
theorem sites_few (hl : ss.length = n) (hf : fewS ss = true) : ACall Tryd.prog 12 [.val (.int .i64 a), .val (.int .i64 q), .isl z (cX ss) n] [] 0 (.val (.bool true)) [] := by
  obtain ⟨hsh, hn⟩ := fewS_sh hf
  have hF := fewS_ok (z := z) hl (by omega) (fun j hj => by have := hsh j (by omega); omega)
  rw [hf] at hF
  have hs := sh_sitesE (a := a) (q := q) hsh (by omega)
  have hT := Si_ok (z := z) (a := a) (q := q) hl hsh (by omega)
  have hR := RSi_ok (z := z) (a := a) (q := q) hl hsh (by omega)
  unfold xeV at hT hR
  generalize sitesE a q ss = r at *
  refine ACall.enter Tryd.func12 rfl (by simp [Tryd.ntmps12]) (by simp) ?_
  simp only [entry, idx, Tryd.ntmps12, List.length, List.map_cons, List.map_nil, List.append_nil, List.cons_append, List.nil_append, Nat.reduceAdd, Nat.zero_add, List.length_cons, List.length_nil]
  repeat' (first | (refine AC_seq ?_) | (refine AC_region_lit ?_) | ((first | refine AL_go rfl (fun K hK => ?_) | refine AL_go0 (fun K hK => ?_)); (first | refine R_callG (f := 13) [] 0 false ?_ | refine R_callG (f := 42) [] 0 false ?_ | refine R_callG (f := 43) [] 0 false ?_ | refine R_callG (f := 44) [] 0 false ?_ | refine R_callG (f := 17) [] 0 false ?_); simp (dsimp := false) (disch := first | exact vD | fail) only [push_cast, simprocAttr]; (repeat (refine aI ?_)); intro G hG; refine hG _ _ ?_; clear hG G; (first | refine ⟨_, _, awake_ok, ?_⟩ | refine ⟨_, _, hF, ?_⟩ | refine ⟨_, _, hT, ?_⟩ | refine ⟨_, _, hR, ?_⟩ | refine ⟨_, _, same_self hs, ?_⟩); simp (dsimp := false) (disch := first | exact vD | fail) only [push_cast, simprocAttr]; (repeat (refine aI ?_)); (first | refine hK _ _ _ ?_ | refine hK _ _ ?_); clear hK K) | ((first | refine AL_go rfl (fun K hK => ?_) | refine AL_go0 (fun K hK => ?_)); (first | refine R_move _ ?_ | refine R_assign _ ?_ | refine Q_load _ _ ?_ | refine Q_loadAgg _ _ ?_ | refine Q_pick _ _ _ ?_ | refine Q_not _ _ ?_ | refine Q_neg _ _ ?_ | refine Q_extract _ _ ?_ | refine R_alloc _ ?_ | refine Q_store _ _ _ ?_); simp (dsimp := false) (disch := first | exact vD | fail) only [push_cast, simprocAttr]; (repeat (refine aI ?_)); (first | refine hK _ _ _ ?_ | refine hK _ _ ?_); clear hK K) | ((first | refine AL_guard rfl rfl (fun K1 K2 h1 h2 => ?_) rfl | refine AC_cond_k (fun K1 K2 h1 h2 => ?_)); simp (dsimp := false) (disch := first | exact vD | fail) only [push_cast, simprocAttr]; (first | (refine ⟨fun hc => ?_, fun hc => ?_⟩ <;> first | (exfalso; omega) | (exfalso; contradiction) | refine h1 ?_ | refine h2 ?_) | refine h1 ?_ | refine h2 ?_); all_goals clear h1 h2 K1 K2) | (refine AL_nil ?_) | (refine Thn_normal ?_) | (refine Thn_ret ?_) | (refine Thn_exit ?_) | (refine Blk_normal ?_) | (refine Blk_ret ?_) | (refine Blk_here ?_) | (refine Blk_other rfl ?_) | (refine AC_block ?_) | (refine AC_exit ?_) | (refine AC_skip ?_) | (refine AC_ret ?_))
  all_goals (refine Ends.mk2 (by first | exact .inr rfl | exact .inl rfl) [] ?_; simp (dsimp := false) (disch := first | exact vD | fail) only [push_cast, simprocAttr, Tryd.f12]; (repeat (refine aI ?_)); try (first | exact vI | fail))
theorem sites_many (hl : ss.length = n) (hn : n < 2^47) (hs : ∀ j, j < n → (ss.getD j default).l.length < 2^47) (hf : fewS ss = false) : ACall Tryd.prog 12 [.val (.int .i64 a), .val (.int .i64 q), .isl z (cX ss) n] [] 0 (.val (.bool true)) [] := by
  have hF := fewS_ok (z := z) hl hn hs
  rw [hf] at hF
  refine ACall.enter Tryd.func12 rfl (by simp [Tryd.ntmps12]) (by simp) ?_
  simp only [entry, idx, Tryd.ntmps12, List.length, List.map_cons, List.map_nil, List.append_nil, List.cons_append, List.nil_append, Nat.reduceAdd, Nat.zero_add, List.length_cons, List.length_nil]
  repeat' (first | (refine AC_seq ?_) | (refine AC_region_lit ?_) | ((first | refine AL_go rfl (fun K hK => ?_) | refine AL_go0 (fun K hK => ?_)); (first | refine R_callG (f := 13) [] 0 false ?_ | refine R_callG (f := 42) [] 0 false ?_); simp (dsimp := false) (disch := first | exact vD | fail) only [push_cast, simprocAttr]; (repeat (refine aI ?_)); intro G hG; refine hG _ _ ?_; clear hG G; (first | refine ⟨_, _, awake_ok, ?_⟩ | refine ⟨_, _, hF, ?_⟩); simp (dsimp := false) (disch := first | exact vD | fail) only [push_cast, simprocAttr]; (repeat (refine aI ?_)); (first | refine hK _ _ _ ?_ | refine hK _ _ ?_); clear hK K) | ((first | refine AL_go rfl (fun K hK => ?_) | refine AL_go0 (fun K hK => ?_)); (first | refine R_move _ ?_ | refine R_assign _ ?_ | refine Q_load _ _ ?_ | refine Q_loadAgg _ _ ?_ | refine Q_pick _ _ _ ?_ | refine Q_not _ _ ?_ | refine Q_neg _ _ ?_ | refine Q_extract _ _ ?_ | refine R_alloc _ ?_ | refine Q_store _ _ _ ?_); simp (dsimp := false) (disch := first | exact vD | fail) only [push_cast, simprocAttr]; (repeat (refine aI ?_)); (first | refine hK _ _ _ ?_ | refine hK _ _ ?_); clear hK K) | ((first | refine AL_guard rfl rfl (fun K1 K2 h1 h2 => ?_) rfl | refine AC_cond_k (fun K1 K2 h1 h2 => ?_)); simp (dsimp := false) (disch := first | exact vD | fail) only [push_cast, simprocAttr]; (first | (refine ⟨fun hc => ?_, fun hc => ?_⟩ <;> first | (exfalso; omega) | (exfalso; contradiction) | refine h1 ?_ | refine h2 ?_) | refine h1 ?_ | refine h2 ?_); all_goals clear h1 h2 K1 K2) | (refine AL_nil ?_) | (refine Thn_normal ?_) | (refine Thn_ret ?_) | (refine Thn_exit ?_) | (refine Blk_normal ?_) | (refine Blk_ret ?_) | (refine Blk_here ?_) | (refine Blk_other rfl ?_) | (refine AC_block ?_) | (refine AC_exit ?_) | (refine AC_skip ?_) | (refine AC_ret ?_))
  all_goals (refine Ends.mk2 (by first | exact .inr rfl | exact .inl rfl) [] ?_; simp (dsimp := false) (disch := first | exact vD | fail) only [push_cast, simprocAttr, Tryd.f12]; (repeat (refine aI ?_)); try (first | exact vI | fail))
theorem sites_law (hl : ss.length = n) (hn : n < 2^47) (hs : ∀ j, j < n → (ss.getD j default).l.length < 2^47) : ACall Tryd.prog 12 [.val (.int .i64 a), .val (.int .i64 q), .isl z (cX ss) n] [] 0 (.val (.bool true)) [] := by
  rcases Bool.eq_false_or_eq_true (fewS ss) with h | h
  · exact sites_few hl h
  · exact sites_many hl hn hs h
theorem core_mk (n : Nd) (ks : List Int) : core (mkP n ks) = core (mkR n ks) := rfl
theorem subE_sim (x : Ex) (l : List Ex) : (subE mkP x l).2 = (subE mkR x l).2 ∧ sameX (subE mkP x l).1 (subE mkR x l).1 = true := by
  unfold subE
  split
  · exact ⟨rfl, sameX_refl _⟩
  · split
    · exact ⟨rfl, sameX_refl _⟩
    · split
      · exact ⟨rfl, sameX_refl _⟩
      · refine ⟨rfl, ?_⟩
        have h := growX_sim (mk := mkP) (mk' := mkR) core_mk x l
        have hl := h.len
        unfold sameX
        dsimp only
        rw [hl]
        unfold Bp.Sim at h
        rw [h]; simp
theorem compE_sim (x : Ex) (l : List Ex) : (compE mkP x l).2 = (compE mkR x l).2 ∧ sameX (compE mkP x l).1 (compE mkR x l).1 = true := by
  unfold compE
  split
  · exact ⟨rfl, sameX_refl _⟩
  · split
    · exact ⟨rfl, sameX_refl _⟩
    · split
      · exact ⟨rfl, sameX_refl _⟩
      · split
        · exact ⟨rfl, sameX_refl _⟩
        · exact subE_sim _ _
def PN (n : Nd) : Prop := n.w.length < 2^47 ∧ n.k.length < 2^47
theorem gS_P {g : Nat → List Nd → List Nd} (hg : ∀ i o, (∀ n ∈ o, PN n) → ∀ n ∈ g i o, PN n) (ks : List Int) (st : List Nd × List Int) (h : ∀ n ∈ st.1, PN n) : ∀ n ∈ (gS g ks st).1, PN n := by
  induction ks generalizing st with
  | nil => exact h
  | cons k kk ih => exact ih (g k.toNat st.1, _) (hg _ _ h)
theorem growG_P {mk : Nd → List Int → Nd} {sub : List Nd → Nd → Option (List Nd)} {nodes : List Nd} (hm : ∀ n ks, (mk n ks).w = n.w ∧ (mk n ks).k = ks) (hn : ∀ i, PN (nodes.getD i default))
    (hs : ∀ o n u, (∀ m ∈ o, PN m) → sub o n = some u → ∀ m ∈ u, PN m) (f i : Nat) (o : List Nd) (h : ∀ n ∈ o, PN n) : ∀ n ∈ growG mk sub nodes f i o, PN n := by
  induction f generalizing i o with
  | zero => exact h
  | succ f ih =>
    cases e : sub o (nodes.getD i default) with
    | some u => rw [growG_sub _ _ _ _ _ _ _ e]; exact hs _ _ _ h e
    | none =>
      rw [growG_s _ _ _ _ _ _ e]
      intro n hn'
      rcases List.mem_append.1 hn' with h1 | h1
      · exact gS_P (fun i o h => ih i o h) _ (o, []) h n h1
      · rw [List.mem_singleton.1 h1]
        obtain ⟨e1, e2⟩ := hm (nodes.getD i default) (gS (growG mk sub nodes f) (nodes.getD i default).k (o, [])).2
        unfold PN
        rw [e1, e2, gS_len2]
        have := hn i
        exact ⟨this.1, by simpa using this.2⟩
theorem Short.P (h : Short x) : ∀ i, PN (x.nodes.getD i default) := fun i => by
  rcases Nat.lt_or_ge i x.nodes.length with h1 | h1
  · exact h.2 i h1
  · rw [List.getD_eq_getElem?_getD, List.getElem?_eq_none h1]; exact ⟨by decide, by decide⟩
theorem growX_P {mk : Nd → List Int → Nd} (hm : ∀ n ks, (mk n ks).w = n.w ∧ (mk n ks).k = ks) (hx : Short x) (hl : ∀ y ∈ k, Short y) : ∀ n ∈ growX mk x k, PN n := by
  refine growG_P hm hx.P (fun o n u ho h => ?_) _ _ _ (by simp)
  unfold subL at h
  split at h
  · rename_i hc
    rw [← Option.some.inj h]
    have hy : Short (k.getD n.server.toNat default) := by
      rcases Nat.lt_or_ge n.server.toNat k.length with h1 | h1
      · exact hl _ (getD_mem h1)
      · rw [List.getD_eq_getElem?_getD, List.getElem?_eq_none h1]; exact short_dflt
    exact growG_P hm hy.P (fun o n u _ h => by cases h) _ _ _ ho
  · cases h
theorem sh_subE {mk : Nd → List Int → Nd} (hm : ∀ n ks, (mk n ks).w = n.w ∧ (mk n ks).k = ks) (hx : Short x) (hl : ∀ y ∈ k, Short y) : Short (subE mk x k).1 := by
  by_cases h1 : validE x = 0
  · by_cases h2 : listE k = 0
    · by_cases h3 : 61 ≤ size 61 (ofP k) x
      · rw [subE_3 h1 h2 h3]; exact short_dflt
      · rw [subE_4 h1 h2 h3]
        refine ⟨by have := growX_few (mk := mk) (validE_ok h1) (listE_ok h2) h3; show (growX mk x k).length < 2^42; omega, fun j hj => ?_⟩
        exact growX_P hm hx hl _ (getD_mem (d := default) hj)
    · rw [subE_2 h1 h2]; exact short_dflt
  · rw [subE_1 h1]; exact short_dflt
theorem sh_compE {mk : Nd → List Int → Nd} (hm : ∀ n ks, (mk n ks).w = n.w ∧ (mk n ks).k = ks) (hx : Short x) (hl : ∀ y ∈ k, Short y) : Short (compE mk x k).1 := by
  unfold compE
  split
  · exact short_dflt
  · split
    · exact short_dflt
    · split
      · exact short_dflt
      · split
        · exact short_dflt
        · refine sh_subE hm hx (fun y hy => ?_)
          obtain ⟨i, hi, rfl⟩ := movJ_mem hy
          exact mvX_short (hl _ (getD_mem (by omega)))
theorem comp_few (hso : Short o) (hfo : Flag o) (hls : ∀ y ∈ k, Short y ∧ Flag y ∧ Nz y) (h1 : fewB o = true) (h2 : smallB k = true) : ACall Tryd.prog 7 [.agg (Cells.cells o), .isl zl (cR k) k.length] [] 0 (.val (.bool true)) [] := by
  have hn : k.length ≤ 14 := by simp only [smallB, Bool.and_eq_true, decide_eq_true_eq] at h2; exact h2.2
  have hF := few_ok hso
  rw [h1] at hF
  have hM := small_ok12 (z := zl) (l := k) rfl (by omega) (fun y hy => (hls y hy).1)
  rw [h2] at hM
  have hC := Co_ok (zl := zl) hso hfo hls (by omega)
  have hR := RCo_ok (zl := zl) hso (fun y hy => (hls y hy).1) (by omega)
  have s1 := sh_compE (mk := mkP) (k := k) (fun _ _ => ⟨rfl, rfl⟩) hso (fun y hy => (hls y hy).1)
  have s2 := sh_compE (mk := mkR) (k := k) (fun _ _ => ⟨rfl, rfl⟩) hso (fun y hy => (hls y hy).1)
  obtain ⟨e1, e2⟩ := compE_sim o k
  have hS := same_ok (e := (compE mkP o k).2) (f := (compE mkR o k).2) s1 s2
  rw [e2, e1, decide_eq_true rfl] at hS
  rw [e1] at hC
  simp only [Bool.and_self] at hS
  generalize (compE mkR o k).2 = e at *
  generalize (compE mkP o k).1 = r1 at *
  generalize (compE mkR o k).1 = r2 at *
  clear hls
  refine ACall.enter Tryd.func7 rfl (by simp [Tryd.ntmps7]) (by simp) ?_
  simp only [entry, idx, Tryd.ntmps7, List.length, List.map_cons, List.map_nil, List.append_nil, List.cons_append, List.nil_append, Nat.reduceAdd, Nat.zero_add, List.length_cons, List.length_nil]
  repeat' (first | (refine AC_seq ?_) | (refine AC_region_lit ?_) | ((first | refine AL_go rfl (fun K hK => ?_) | refine AL_go0 (fun K hK => ?_)); (first | refine R_callG (f := 13) [] 0 false ?_ | refine R_callG (f := 29) [] 0 false ?_ | refine R_callG (f := 30) [] 0 false ?_ | refine R_callG (f := 31) [] 0 false ?_ | refine R_callG (f := 32) [] 0 false ?_ | refine R_callG (f := 17) [] 0 false ?_); simp (dsimp := false) (disch := first | exact vD | fail) only [push_cast, simprocAttr]; (repeat (refine aI ?_)); intro G hG; refine hG _ _ ?_; clear hG G; (first | refine ⟨_, _, awake_ok, ?_⟩ | refine ⟨_, _, hF, ?_⟩ | refine ⟨_, _, hM, ?_⟩ | refine ⟨_, _, hC, ?_⟩ | refine ⟨_, _, hR, ?_⟩ | refine ⟨_, _, hS, ?_⟩); simp (dsimp := false) (disch := first | exact vD | fail) only [push_cast, simprocAttr]; (repeat (refine aI ?_)); (first | refine hK _ _ _ ?_ | refine hK _ _ ?_); clear hK K) | ((first | refine AL_go rfl (fun K hK => ?_) | refine AL_go0 (fun K hK => ?_)); (first | refine R_move _ ?_ | refine R_assign _ ?_ | refine Q_load _ _ ?_ | refine Q_loadAgg _ _ ?_ | refine Q_pick _ _ _ ?_ | refine Q_not _ _ ?_ | refine Q_neg _ _ ?_ | refine Q_extract _ _ ?_ | refine Q_box _ _ ?_ | refine R_alloc _ ?_ | refine Q_store _ _ _ ?_); simp (dsimp := false) (disch := first | exact vD | fail) only [push_cast, simprocAttr]; (repeat (refine aI ?_)); (first | refine hK _ _ _ ?_ | refine hK _ _ ?_); clear hK K) | ((first | refine AL_guard rfl rfl (fun K1 K2 h1 h2 => ?_) rfl | refine AC_cond_k (fun K1 K2 h1 h2 => ?_)); simp (dsimp := false) (disch := first | exact vD | fail) only [push_cast, simprocAttr]; (first | (refine ⟨fun hc => ?_, fun hc => ?_⟩ <;> first | (exfalso; omega) | (exfalso; contradiction) | refine h1 ?_ | refine h2 ?_) | refine h1 ?_ | refine h2 ?_); all_goals clear h1 h2 K1 K2) | (refine AL_nil ?_) | (refine Thn_normal ?_) | (refine Thn_ret ?_) | (refine Thn_exit ?_) | (refine Blk_normal ?_) | (refine Blk_ret ?_) | (refine Blk_here ?_) | (refine Blk_other rfl ?_) | (refine AC_block ?_) | (refine AC_exit ?_) | (refine AC_skip ?_) | (refine AC_ret ?_))
  all_goals (refine Ends.mk2 (by first | exact .inr rfl | exact .inl rfl) [] ?_; simp (dsimp := false) (disch := first | exact vD | fail) only [push_cast, simprocAttr, Tryd.f7]; (repeat (refine aI ?_)); try (first | exact vI | fail))
theorem comp_many1 (hso : Short o) (h1 : fewB o = false) : ACall Tryd.prog 7 [.agg (Cells.cells o), .isl zl (cR k) k.length] [] 0 (.val (.bool true)) [] := by
  have hF := few_ok hso
  rw [h1] at hF
  refine ACall.enter Tryd.func7 rfl (by simp [Tryd.ntmps7]) (by simp) ?_
  simp only [entry, idx, Tryd.ntmps7, List.length, List.map_cons, List.map_nil, List.append_nil, List.cons_append, List.nil_append, Nat.reduceAdd, Nat.zero_add, List.length_cons, List.length_nil]
  repeat' (first | (refine AC_seq ?_) | (refine AC_region_lit ?_) | ((first | refine AL_go rfl (fun K hK => ?_) | refine AL_go0 (fun K hK => ?_)); (first | refine R_callG (f := 13) [] 0 false ?_ | refine R_callG (f := 29) [] 0 false ?_); simp (dsimp := false) (disch := first | exact vD | fail) only [push_cast, simprocAttr]; (repeat (refine aI ?_)); intro G hG; refine hG _ _ ?_; clear hG G; (first | refine ⟨_, _, awake_ok, ?_⟩ | refine ⟨_, _, hF, ?_⟩); simp (dsimp := false) (disch := first | exact vD | fail) only [push_cast, simprocAttr]; (repeat (refine aI ?_)); (first | refine hK _ _ _ ?_ | refine hK _ _ ?_); clear hK K) | ((first | refine AL_go rfl (fun K hK => ?_) | refine AL_go0 (fun K hK => ?_)); (first | refine R_move _ ?_ | refine R_assign _ ?_ | refine Q_load _ _ ?_ | refine Q_loadAgg _ _ ?_ | refine Q_pick _ _ _ ?_ | refine Q_not _ _ ?_ | refine Q_neg _ _ ?_ | refine Q_extract _ _ ?_ | refine Q_box _ _ ?_ | refine R_alloc _ ?_ | refine Q_store _ _ _ ?_); simp (dsimp := false) (disch := first | exact vD | fail) only [push_cast, simprocAttr]; (repeat (refine aI ?_)); (first | refine hK _ _ _ ?_ | refine hK _ _ ?_); clear hK K) | ((first | refine AL_guard rfl rfl (fun K1 K2 h1 h2 => ?_) rfl | refine AC_cond_k (fun K1 K2 h1 h2 => ?_)); simp (dsimp := false) (disch := first | exact vD | fail) only [push_cast, simprocAttr]; (first | (refine ⟨fun hc => ?_, fun hc => ?_⟩ <;> first | (exfalso; omega) | (exfalso; contradiction) | refine h1 ?_ | refine h2 ?_) | refine h1 ?_ | refine h2 ?_); all_goals clear h1 h2 K1 K2) | (refine AL_nil ?_) | (refine Thn_normal ?_) | (refine Thn_ret ?_) | (refine Thn_exit ?_) | (refine Blk_normal ?_) | (refine Blk_ret ?_) | (refine Blk_here ?_) | (refine Blk_other rfl ?_) | (refine AC_block ?_) | (refine AC_exit ?_) | (refine AC_skip ?_) | (refine AC_ret ?_))
  all_goals (refine Ends.mk2 (by first | exact .inr rfl | exact .inl rfl) [] ?_; simp (dsimp := false) (disch := first | exact vD | fail) only [push_cast, simprocAttr, Tryd.f7]; (repeat (refine aI ?_)); try (first | exact vI | fail))
theorem comp_many2 (hso : Short o) (hls : ∀ y ∈ k, Short y) (hn : k.length < 2^47) (h1 : fewB o = true) (h2 : smallB k = false) : ACall Tryd.prog 7 [.agg (Cells.cells o), .isl zl (cR k) k.length] [] 0 (.val (.bool true)) [] := by
  have hF := few_ok hso
  rw [h1] at hF
  have hM := small_ok12 (z := zl) (l := k) rfl hn hls
  rw [h2] at hM
  refine ACall.enter Tryd.func7 rfl (by simp [Tryd.ntmps7]) (by simp) ?_
  simp only [entry, idx, Tryd.ntmps7, List.length, List.map_cons, List.map_nil, List.append_nil, List.cons_append, List.nil_append, Nat.reduceAdd, Nat.zero_add, List.length_cons, List.length_nil]
  repeat' (first | (refine AC_seq ?_) | (refine AC_region_lit ?_) | ((first | refine AL_go rfl (fun K hK => ?_) | refine AL_go0 (fun K hK => ?_)); (first | refine R_callG (f := 13) [] 0 false ?_ | refine R_callG (f := 29) [] 0 false ?_ | refine R_callG (f := 30) [] 0 false ?_); simp (dsimp := false) (disch := first | exact vD | fail) only [push_cast, simprocAttr]; (repeat (refine aI ?_)); intro G hG; refine hG _ _ ?_; clear hG G; (first | refine ⟨_, _, awake_ok, ?_⟩ | refine ⟨_, _, hF, ?_⟩ | refine ⟨_, _, hM, ?_⟩); simp (dsimp := false) (disch := first | exact vD | fail) only [push_cast, simprocAttr]; (repeat (refine aI ?_)); (first | refine hK _ _ _ ?_ | refine hK _ _ ?_); clear hK K) | ((first | refine AL_go rfl (fun K hK => ?_) | refine AL_go0 (fun K hK => ?_)); (first | refine R_move _ ?_ | refine R_assign _ ?_ | refine Q_load _ _ ?_ | refine Q_loadAgg _ _ ?_ | refine Q_pick _ _ _ ?_ | refine Q_not _ _ ?_ | refine Q_neg _ _ ?_ | refine Q_extract _ _ ?_ | refine Q_box _ _ ?_ | refine R_alloc _ ?_ | refine Q_store _ _ _ ?_); simp (dsimp := false) (disch := first | exact vD | fail) only [push_cast, simprocAttr]; (repeat (refine aI ?_)); (first | refine hK _ _ _ ?_ | refine hK _ _ ?_); clear hK K) | ((first | refine AL_guard rfl rfl (fun K1 K2 h1 h2 => ?_) rfl | refine AC_cond_k (fun K1 K2 h1 h2 => ?_)); simp (dsimp := false) (disch := first | exact vD | fail) only [push_cast, simprocAttr]; (first | (refine ⟨fun hc => ?_, fun hc => ?_⟩ <;> first | (exfalso; omega) | (exfalso; contradiction) | refine h1 ?_ | refine h2 ?_) | refine h1 ?_ | refine h2 ?_); all_goals clear h1 h2 K1 K2) | (refine AL_nil ?_) | (refine Thn_normal ?_) | (refine Thn_ret ?_) | (refine Thn_exit ?_) | (refine Blk_normal ?_) | (refine Blk_ret ?_) | (refine Blk_here ?_) | (refine Blk_other rfl ?_) | (refine AC_block ?_) | (refine AC_exit ?_) | (refine AC_skip ?_) | (refine AC_ret ?_))
  all_goals (refine Ends.mk2 (by first | exact .inr rfl | exact .inl rfl) [] ?_; simp (dsimp := false) (disch := first | exact vD | fail) only [push_cast, simprocAttr, Tryd.f7]; (repeat (refine aI ?_)); try (first | exact vI | fail))
theorem comp_all (hso : Short o) (hfo : Flag o) (hls : ∀ y ∈ k, Short y ∧ Flag y ∧ Nz y) (hn : k.length < 2^47) : ACall Tryd.prog 7 [.agg (Cells.cells o), .isl zl (cR k) k.length] [] 0 (.val (.bool true)) [] := by
  rcases Bool.eq_false_or_eq_true (fewB o) with h1 | h1
  · rcases Bool.eq_false_or_eq_true (smallB k) with h2 | h2
    · exact comp_few hso hfo hls h1 h2
    · exact comp_many2 hso (fun y hy => (hls y hy).1) hn h1 h2
  · exact comp_many1 hso h1
end Go.Proofs.YtdeligopifoceaaDoor
