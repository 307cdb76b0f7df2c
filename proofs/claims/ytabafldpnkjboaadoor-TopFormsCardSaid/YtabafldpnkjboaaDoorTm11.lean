/- Families of drafts and what follows from them: contracts at a family; the example awake12. No condition. -/
import Derived.Test.YtabafldpnkjboaaDoorTmP
import Derived.Test.YtabafldpnkjboaaDoorTm3
import Derived.Test.YtabafldpnkjboaaDoorBu6
set_option linter.unusedVariables false
set_option linter.unusedSectionVars false
set_option linter.unusedSimpArgs false
set_option maxHeartbeats 4000000
set_option maxRecDepth 20000
namespace Go.Proofs.YtabafldpnkjboaaDoor
open Go Go.Sy Go.Bp Go.Dg
attribute [local irreducible] AO AL AC OpT ACall Ends DGo DRun Thn Blk Nxt
variable {n N M K L S k i m r a b j w u v s q y d c : Nat} {z : Bool} {x : Ex} {t : Nd} {e : Int} {f xs B : List Nat}
structure FOk (n : Nat) (f : List Nat) : Prop where
  n6 : n ≤ 6
  nz : ∀ y ∈ f, ¬ y % 65536 = 0
  few : f.length ≤ 20
  min : MinOk n (hasA f) f
theorem FOk.of (hn : n ≤ 6) (hL : L ≤ 20) : FOk n (leastL (kL n B L)) := by
  have hk := kL_lt (n := n) (B := B) (j := L)
  have hl := kL_len (n := n) (B := B) (j := L)
  generalize kL n B L = xs at *
  have hp : 2 ^ n ≤ 2 ^ 6 := Nat.pow_le_pow_right (by omega) hn
  have hx : ∀ y ∈ xs, y < 2 ^ n := fun y hy => (hk y hy).1
  have hsub : (leastL xs).Sublist (srtL xs xs.length) := by
    have := loL_sub (o := srtL xs xs.length) (Nat.le_refl _)
    rw [List.take_length] at this; exact this
  obtain ⟨hm, _⟩ := srt_mem (xs := xs) (fun y hy => by have := hx y hy; omega) xs.length (Nat.le_refl _)
  refine ⟨hn, fun y hy => ?_, ?_, (least_MinOk hn hx).congr fun t ht => (least_has hn hx t ht).symm⟩
  · have := (hm y).1 (hsub.subset hy)
    rw [List.take_length] at this
    exact (hk y this).2
  · have := hsub.length_le
    have := srt_len (xs := xs) xs.length
    omega
theorem FOk.fam (h : FOk n f) : famE f = 0 := min_famE h.n6 h.min
theorem sup_lt2 (hf : ∀ y ∈ f, y < 2 ^ n) : ∀ j, j ≤ f.length → supA f j < 2 ^ n := by
  intro j
  induction j with
  | zero => intro _; exact Nat.two_pow_pos n
  | succ j ih =>
    intro hj
    rw [supA_s]
    exact Nat.or_lt_two_pow (ih (by omega)) (hf _ (getD_mem (d := default) (by omega)))
theorem FOk.sup (h : FOk n f) : supA f f.length < 2 ^ n := sup_lt2 h.min.lt _ (Nat.le_refl _)
theorem FOk.sub (h : FOk n f) (hm : m ∈ f) (hi : bit m i = true) : bit (supA f f.length) i = true := by
  obtain ⟨k, hk, rfl⟩ := List.getElem_of_mem hm
  refine (bit_supA f.length).2 ⟨k, hk, ?_⟩
  rw [gD hk]; exact hi
theorem FOk.msok (h : FOk n f) : MsOk (mem (supA f f.length) 16) (memL (supA f f.length) 16) := by
  have hs := h.sup
  have hp : 2 ^ n ≤ 2 ^ 6 := Nat.pow_le_pow_right (by omega) h.n6
  generalize supA f f.length = S at hs
  refine ⟨rfl, fun k hk => ?_, fun i k hi hk e => ?_⟩
  · have hm : (mem S 16).getD k default ∈ mem S 16 := getD_mem hk
    have hr := mem_lt _ hm
    generalize (mem S 16).getD k default = y at *
    obtain ⟨i, rfl⟩ := Int.eq_ofNat_of_zero_le hr.1
    have hb := mem_bit (by omega) hm
    refine ⟨hr.1, ?_⟩
    have : i < 12 := Decidable.not_not.1 fun hc => by
      have : 2 ^ 12 ≤ 2 ^ i := Nat.pow_le_pow_right (by omega) (by omega)
      rw [Nat.testBit_lt_two_pow (by omega)] at hb; cases hb
    omega
  · have hd := mem_nodup (s := S) 16
    have hi : i < (mem S 16).length := hi
    have hk : k < (mem S 16).length := hk
    rw [List.getD_eq_getElem?_getD, List.getElem?_eq_getElem hi, List.getD_eq_getElem?_getD, List.getElem?_eq_getElem hk] at e
    have e : (mem S 16)[i] = (mem S 16)[k] := e
    rcases Nat.lt_trichotomy i k with h1 | h1 | h1
    · exact absurd e (List.pairwise_iff_getElem.1 hd i k hi hk h1)
    · exact h1
    · exact absurd e.symm (List.pairwise_iff_getElem.1 hd k i hk hi h1)
theorem FOk.sok (h : FOk n f) (hj : j < f.length) : SOk (mem (supA f f.length) 16) (f.getD j default) := by
  have hm : f.getD j default ∈ f := getD_mem hj
  have hz := h.nz _ hm
  have hsu := fun i => h.sub (i := i) hm
  have hlt := h.min.lt _ hm
  have hp : 2 ^ n ≤ 2 ^ 6 := Nat.pow_le_pow_right (by omega) h.n6
  generalize f.getD j default = s at *
  constructor
  · refine Nat.pos_of_ne_zero fun h0 => hz ?_
    have he : mem s 16 = [] := List.length_eq_zero_iff.1 h0
    have : s % 65536 = 0 % 65536 := ext_bit.2 fun i hi => by
      cases hb : bit s i with
      | false => rw [bit_0]
      | true =>
        rw [bit_raw hi] at hb
        have := mem_in hi hb
        rw [he] at this; cases this
    omega
  · intro y hy
    have hr := mem_lt y hy
    obtain ⟨i, rfl⟩ := Int.eq_ofNat_of_zero_le hr.1
    have h16 : i < 16 := by omega
    have hb := mem_bit h16 hy
    have := hsu i (by rw [bit_raw h16]; exact hb)
    rw [bit_raw h16] at this
    obtain ⟨k, hk, e⟩ := List.getElem_of_mem (mem_in h16 this)
    exact ⟨k, hk, by rw [List.getD_eq_getElem?_getD, List.getElem?_eq_getElem hk]; exact e⟩
def xF (f : List Nat) : Ex := xofX (mem (supA f f.length) 16) f
theorem FOk.k12 (h : FOk n f) : memL (supA f f.length) 16 ≤ 12 := by
  have hs := h.sup
  have hp : 2 ^ n ≤ 2 ^ 6 := Nat.pow_le_pow_right (by omega) h.n6
  have := (subs_any_len (supA f f.length) (by omega)).2
  omega
theorem FOk.xf (h : FOk n f) (g : Int → Bool) : XfOk g (mem (supA f f.length) 16) f (xF f) := xof_fine h.msok h.k12 (fun j hj => h.sok hj) h.few
theorem FOk.fine (h : FOk n f) : Fine (xF f) := ⟨(h.xf fun _ => false).ok, (h.xf fun _ => false).nz⟩
theorem FOk.hold (h : FOk n f) : holdT (xF f) q = hasA f q := hold_has (h.xf _)
theorem FOk.xof (h : FOk n f) : ACall Tryd.prog 6 [.isl z (cX f) f.length] [] 0 (.tup [.agg (Cells.cells (xF f)), .val (.int .i64 0)]) [] := by
  rcases Nat.eq_zero_or_pos f.length with h0 | h0
  · have e := List.length_eq_zero_iff.1 h0
    subst e
    exact xof_nil
  · have hs := h.sok h0
    have hK : 0 < memL (supA f f.length) 16 := by
      obtain ⟨k, hk, _⟩ := hs.mem ((mem (f.getD 0 default) 16).getD 0 default) (getD_mem hs.pos)
      exact Nat.lt_of_le_of_lt (Nat.zero_le _) hk
    refine xof_ok rfl h0 h.few h.fam rfl rfl rfl hK h.k12 h.msok.rng fun j hj => ?_
    have hs := h.sok hj
    refine ⟨hs.pos, fun q hq => ?_⟩
    obtain ⟨k, hk, e⟩ := hs.mem _ (getD_mem (d := default) hq)
    have := h.msok.rng k hk
    rw [e] at this; exact this
theorem FOk.sv (h : FOk n f) : svS (xF f) (xF f).nodes.length = supA f f.length := by
  have hx := h.xf fun _ => false
  have hs := h.sup
  have hp : 2 ^ n ≤ 2 ^ 6 := Nat.pow_le_pow_right (by omega) h.n6
  unfold xF at *
  generalize hS : supA f f.length = S at *
  generalize xofX (mem S 16) f = x at *
  apply Nat.eq_of_testBit_eq
  intro i
  rw [Bool.eq_iff_iff, sv_bit fun k hk => ((hx.ok.node k hk).srv).1]
  constructor
  · rintro ⟨k, h1, h2, h3⟩
    have hm := hx.sv _ (getD_mem (d := default) h1) h2
    rw [h3] at hm
    have := mem_lt _ hm
    exact mem_bit (by omega) hm
  · intro hb
    have h16 : i < 16 := Decidable.not_not.1 fun hc => by
      have : 2 ^ 16 ≤ 2 ^ i := Nat.pow_le_pow_right (by omega) (by omega)
      rw [Nat.testBit_lt_two_pow (by omega)] at hb; cases hb
    obtain ⟨k, hk, e⟩ := List.getElem_of_mem (mem_in h16 hb)
    have hy := hx.ky k hk
    refine ⟨k, Nat.lt_of_lt_of_le hk hx.ln, hy.1, ?_⟩
    rw [hy.2, List.getD_eq_getElem?_getD, List.getElem?_eq_getElem hk]; exact e
theorem FOk.onS (h : FOk n f) : hasA f (sand q (supA f f.length)) = hasA f q := by
  have hsu := fun m hm i => h.sub (m := m) (i := i) hm
  rw [Bool.eq_iff_iff, hasA_iff, hasA_iff]
  constructor
  · rintro ⟨m, h1, h2⟩
    exact ⟨m, h1, sub_bit.2 fun i hi => by have := sub_bit.1 h2 i hi; rw [bit_sand, Bool.and_eq_true] at this; exact this.1⟩
  · rintro ⟨m, h1, h2⟩
    exact ⟨m, h1, sub_bit.2 fun i hi => by rw [bit_sand, sub_bit.1 h2 i hi, hsu m h1 i hi]; rfl⟩
theorem FOk.family (h : FOk n f) : ∃ z', ACall Tryd.prog 9 [.agg (Cells.cells (xF f))] [] 0 (.tup [.isl z' (cX f) f.length, .val (.int .i64 0)]) [] := by
  have hp : 2 ^ n ≤ 2 ^ 6 := Nat.pow_le_pow_right (by omega) h.n6
  have hs := h.sup
  have e : holdT (xF f) = hasA f := funext fun q => h.hold
  have hf := family_ok (x := xF f) h.fine.va h.fine.sh h.fine.kS h.sv (by omega) rfl rfl
  have hu : mB (holdT (xF f)) (subs (supA f f.length)) (subs (supA f f.length)).length = f := by
    rw [e]; exact (minOkS h.n6 hs fun t _ => h.onS).uniq h.min
  unfold mBl at hf
  rw [hu] at hf
  exact ⟨_, hf⟩
def dF (f : List Nat) : List Nat := mB (hitsA f) (subs (supA f f.length)) (subs (supA f f.length)).length
theorem FOk.tdual (h : FOk n f) : ∃ z', ACall Tryd.prog 12 [.isl z (cX f) f.length] [] 0 (.tup [.isl z' (cX (dF f)) (dF f).length, .val (.int .i64 0)]) [] := by
  have hp : 2 ^ n ≤ 2 ^ 6 := Nat.pow_le_pow_right (by omega) h.n6
  have hs := h.sup
  exact ⟨_, tdual_ok (z := z) (f := f) rfl (by have := h.few; omega) h.fam rfl (by omega) rfl rfl⟩
theorem FOk.hon (h : FOk n f) : hitsA f (sand q (supA f f.length)) = hitsA f q := by
  unfold hitsA
  congr 1
  rw [Bool.eq_iff_iff, List.any_eq_true, List.any_eq_true]
  have key : ∀ m ∈ f, sand m (sand q (supA f f.length)) % 65536 = sand m q % 65536 := fun m hm => ext_bit.2 fun i hi => by
    rw [bit_sand, bit_sand, bit_sand]
    cases hb : bit m i with
    | false => rfl
    | true => rw [h.sub hm hb]; simp
  exact ⟨fun ⟨m, h1, h2⟩ => ⟨m, h1, by rw [key m h1] at h2; exact h2⟩, fun ⟨m, h1, h2⟩ => ⟨m, h1, by rw [key m h1]; exact h2⟩⟩
theorem FOk.dmin (h : FOk n f) : MinOk n (hitsA f) (dF f) := minOkS h.n6 h.sup fun t _ => h.hon
theorem FOk.cpl (h : FOk n f) (hq : q < 2 ^ n) : hitsA f q = !hasA f (cpl n q) := hits_cpl h.n6 h.min.lt hq
theorem FOk.dmono (h : FOk n f) : Mono n (hitsA f) := fun t i ht hi hh => by
  have h2 := set_bit hi ht
  have hp : 2 ^ n ≤ 2 ^ 6 := Nat.pow_le_pow_right (by omega) h.n6
  rw [h.cpl ht] at hh
  rw [h.cpl h2]
  cases hb : hasA f (Go.Dg.cpl n (t ||| 2 ^ i)) with
  | false => rfl
  | true =>
    have := hasA_up hb (y := Go.Dg.cpl n t) (sub_bit.2 fun k hk => by
      have h16 := bit_lt hk
      rw [bit_raw h16, cpl_bit h2, or_bit] at hk
      rw [bit_raw h16, cpl_bit ht]
      simp only [Bool.and_eq_true, Bool.not_eq_true', Bool.or_eq_false_iff] at hk ⊢
      exact ⟨hk.1, hk.2.1⟩)
    rw [this] at hh; cases hh
theorem FOk.dhas (h : FOk n f) (hq : q < 2 ^ n) : hasA (dF f) q = hitsA f q := (min_mono h.n6 h.dmin).1 h.dmono q hq
theorem FOk.dhold (h : FOk n f) (hq : q < 2 ^ n) : holdT (duX (xF f)) q = hitsA f q := by
  have hp : 2 ^ n ≤ 2 ^ 6 := Nat.pow_le_pow_right (by omega) h.n6
  have hc := cpl_lt (n := n) (t := q)
  have hx := h.xf fun _ => false
  have hs := h.sup
  have e : holdT (duX (xF f)) q = !holdT (xF f) (Go.Dg.cpl n q) := du_hold h.fine.ok fun t ht hk => by
    have hm := hx.sv t ht hk
    have hr := mem_lt _ hm
    obtain ⟨i, hi⟩ := Int.eq_ofNat_of_zero_le hr.1
    rw [hi] at hm ⊢
    have hb := mem_bit (by omega) hm
    have hin : i < n := Decidable.not_not.1 fun hc => by
      have : 2 ^ n ≤ 2 ^ i := Nat.pow_le_pow_right (by omega) (by omega)
      rw [Nat.testBit_lt_two_pow (by omega)] at hb; cases hb
    rw [bitI_n, bitI_n, Nat.mod_eq_of_lt (by omega), Nat.mod_eq_of_lt (by omega), cpl_bit hq, decide_eq_true hin]; simp
  rw [e, h.hold, h.cpl hq]
def maj3 : Ex := thr 2 (servs (upTo 0 3)) true []
theorem maj_eq : majE 3 = (maj3, 0) := rfl
theorem maj_sv : svS maj3 maj3.nodes.length = 7 := by decide
theorem maj_fine : validE maj3 = 0 ∧ mxS maj3 maj3.nodes.length = 3 ∧ maj3.nodes.length = 4 := by decide
theorem maj_sh : Short maj3 := ⟨by decide, fun j hj => by
  have : maj3.nodes.length = 4 := maj_fine.2.2
  have : j = 0 ∨ j = 1 ∨ j = 2 ∨ j = 3 := by omega
  rcases this with rfl | rfl | rfl | rfl <;> exact ⟨by decide, by decide⟩⟩
theorem maj_ks : KS maj3 := fun j hj => by
  have : maj3.nodes.length = 4 := maj_fine.2.2
  have : j = 0 ∨ j = 1 ∨ j = 2 ∨ j = 3 := by omega
  rcases this with rfl | rfl | rfl | rfl <;> decide
theorem maj_fam : mB (holdT maj3) (subs 7) (subs 7).length = [3, 5, 6] := by decide +kernel
theorem maj_dual : mB (hitsA [3, 5, 6]) (subs 7) (subs 7).length = [3, 5, 6] := by decide +kernel
theorem maj_from : fromT 3 (holdT maj3) = (twoF, 5) := by decide +kernel
theorem a12_m : ACall Tryd.prog 17 [i6v 3] [] 0 (.tup [.agg (Cells.cells maj3), i6v 0]) [] := by
  have := M_good (n := 3) (by omega)
  rw [show ((3 : Nat) : Int) = 3 from rfl, maj_eq] at this
  exact this
theorem a12_f : ACall Tryd.prog 9 [.agg (Cells.cells maj3)] [] 0 (.tup [.isl false [u6v 3, u6v 5, u6v 6] 3, i6v 0]) [] := by
  have := family_ok (x := maj3) maj_fine.1 maj_sh maj_ks maj_sv (by omega) rfl rfl
  unfold mBl at this
  rw [maj_fam] at this
  exact this
theorem a12_t : ACall Tryd.prog 12 [.isl false [u6v 3, u6v 5, u6v 6] 3] [] 0 (.tup [.isl false [u6v 3, u6v 5, u6v 6] 3, i6v 0]) [] := by
  have := tdual_ok (z := false) (f := [3, 5, 6]) (n := 3) (s := 7) rfl (by omega) two_fam.1 (by decide) (by omega) rfl rfl
  unfold mBl at this
  rw [maj_dual] at this
  exact this
theorem a12_o : ACall Tryd.prog 18 [.agg (Cells.cells maj3)] [] 0 (.tup [.agg [i6v 3, .isl false (cR twoF) 4, i6v 5], i6v 0]) [] := by
  have := of_ok (x := maj3) (n := 3) maj_sh maj_fine.1 maj_ks maj_fine.2.1 (by omega)
  rw [maj_from] at this
  exact this
theorem awake12_ok : ACall Tryd.prog 5 [] [] 0 (.val (.bool true)) [] := by
  have h1 := PLift.up a12_m; have h2 := PLift.up a12_f; have h3 := PLift.up a12_t; have h4 := PLift.up a12_o; have h5 := PLift.up a_counts
  rw [cI0031] at h5
  obtain ⟨C, hC⟩ : ∃ C, cR twoF = C := ⟨_, rfl⟩
  have ex : Cells.cells maj3 = [.isl false (cR maj3.nodes) 4, i6v 3] := rfl
  rw [ex] at h1 h2 h4
  obtain ⟨D, hD⟩ : ∃ D, cR maj3.nodes = D := ⟨_, rfl⟩
  rw [hC] at h4 h5
  rw [hD] at h1 h2 h4
  have hb : ∀ x ∈ C, bnd 0 x := by rw [← hC]; exact fun x hx => by have := cR_bnd (n := 0) (l := twoF); simp at this; exact this x hx
  have hbD : ∀ x ∈ D, bnd 0 x := by rw [← hD]; exact fun x hx => by have := cR_bnd (n := 0) (l := maj3.nodes); simp at this; exact this x hx
  clear hC hD ex
  refine ACall.enter Tryd.func5 rfl (by simp [Tryd.ntmps5]) (by simp) ?_; simp only [entry, idx, Tryd.ntmps5, List.length, List.map_cons, List.map_nil, List.append_nil, List.cons_append, List.nil_append, Nat.reduceAdd, Nat.zero_add, List.length_cons, List.length_nil]
  repeat' (first | apply AC_seq | apply AC_region_lit | ((first | refine AL_go rfl (fun K hK => ?_) | refine AL_go0 (fun K hK => ?_)); (first | refine R_callG (f := 17) [] 0 false ?_ | refine R_callG (f := 9) [] 0 false ?_ | refine R_callG (f := 12) [] 0 false ?_ | refine R_callG (f := 18) [] 0 false ?_ | refine R_callG (f := 19) [] 0 false ?_ | refine R_callG (f := 11) [] 0 true ?_); simp -dsimp (disch := try exact vD) only [push_cast, simprocAttr]; (repeat refine aI ?_); intro G hG; refine hG _ _ ?_; clear hG G; (first | refine ⟨_, _, h1.down, ?_⟩ | refine ⟨_, _, h2.down, ?_⟩ | refine ⟨_, _, h3.down, ?_⟩ | refine ⟨_, _, h4.down, ?_⟩ | refine ⟨_, _, h5.down, ?_⟩ | refine ⟨_, _, a_same7, ?_⟩); simp -dsimp (disch := try exact vD) only [push_cast, simprocAttr]; (repeat refine aI ?_); apply hK; clear hK K) | ((first | refine AL_go rfl (fun K hK => ?_) | refine AL_go0 (fun K hK => ?_)); (first | apply R_move | apply R_assign | apply Q_load | apply Q_loadAgg | apply Q_indexAddr | apply Q_indexArr | apply Q_len | apply Q_lenStr | apply Q_pick | apply Q_extract | apply R_alloc | apply Q_store | apply Q_buildSlice | apply Q_eqAgg | apply Q_neqAgg | apply Q_neqSelf | apply Q_bin); simp -dsimp (disch := try exact vD) only [push_cast, simprocAttr]; (repeat refine aI ?_); apply hK; clear hK K) | ((first | refine AL_guard rfl rfl (fun K1 K2 h1 h2 => ?_) rfl | refine AC_cond_k (fun K1 K2 h1 h2 => ?_)); simp -dsimp (disch := try exact vD) only [push_cast, simprocAttr]; (first | (refine ⟨fun hc => ?_, fun hc => ?_⟩ <;> first | (exfalso; omega) | (exfalso; contradiction) | refine h1 ?_ | refine h2 ?_) | refine h1 ?_ | refine h2 ?_); all_goals clear h1 h2 K1 K2) | apply AL_nil | apply Thn_normal | apply Thn_ret | apply Thn_exit | apply Blk_normal | apply Blk_ret | apply Blk_here | (refine Blk_other rfl ?_) | apply AC_block | apply AC_exit | apply AC_skip | apply AC_ret)
  all_goals first
    | ((refine Ends.mk2 (by first | exact .inr rfl | exact .inl rfl) [] ?_; simp -dsimp (disch := try exact vD) only [push_cast, simprocAttr, Tryd.f5]; (repeat refine aI ?_); try (first | exact vI | fail)); done)
    | trace_state
end Go.Proofs.YtabafldpnkjboaaDoor
