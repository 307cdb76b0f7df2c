/- FeD: Fe20 Fe21, merged. No condition. -/
import Derived.Test.YtgnkcohlfdddnaaDoorFe19
import Derived.Test.YtgnkcohlfdddnaaDoorBpB
import Derived.Test.YtgnkcohlfdddnaaDoorFe17
/- Fe20. -/
set_option linter.unusedVariables false
set_option linter.unusedSectionVars false
set_option linter.unusedSimpArgs false
set_option maxHeartbeats 1000000
namespace Go.Proofs.YtgnkcohlfdddnaaDoor
open Go Go.Sy Go.Bp
variable {n i j m q s d L N : Nat} {l T : List Ex} {mk : Nd → List Int → Nd} {x : Ex} {h g : Int → Bool}
theorem runA_ext {ns : List Nd} (hg : ∀ t ∈ ns, t.kind = 1 → h t.server = g t.server) : ∀ acc, runA h acc ns = runA g acc ns := by
  induction ns with
  | nil => intro acc; rfl
  | cons t ns ih =>
    intro acc
    have e : evN h acc t = evN g acc t := by
      unfold evN
      by_cases hk : t.kind = 1
      · rw [hg t (by simp) hk]
      · simp [hk]
    simp only [runA, e]
    exact ih (fun u hu => hg u (by simp [hu])) _
theorem hold_ext (hx : XOk x) (hg : ∀ s : Int, 0 ≤ s → h s = g s) : hold h x = hold g x := by
  unfold hold
  rw [runA_ext (fun t ht _ => ?_)]
  obtain ⟨j, hj, rfl⟩ := List.getElem_of_mem ht
  have := (hx.node j hj).srv.1
  rw [List.getD_eq_getElem?_getD, List.getElem?_eq_getElem hj, Option.getD_some] at this
  exact hg _ this
theorem xok_con {b : Bool} : XOk (conE b) := validE_ok (by cases b <;> rfl)
theorem ks_con {b : Bool} : KS (conE b) := fun j hj => by
  have : j = 0 := by (have : j < 1 := hj; omega)
  subst this; cases b <;> exact (by decide : (0:Nat) ≤ 1000)
theorem hold_con {b : Bool} : hold h (conE b) = b := by cases b <;> rfl
theorem xok_srv (hi : i < 12) : XOk (srv i) := (VOk_srv (by omega) (by omega)).ok (by show 1 ≤ 60; decide)
theorem delT_at (hi : i < n) : (delT d n).getD i default = if bit d i = true then conE true else srv i := by
  induction n with
  | zero => omega
  | succ n ih =>
    show (delT d n ++ [_]).getD i default = _
    by_cases e : i = n
    · subst e
      have := getD_app2 (a := delT d i) (x := if bit d i = true then conE true else srv i) (d := (default : Ex))
      rw [delT_len] at this; exact this
    · rw [getD_app1 (by rw [delT_len]; omega)]; exact ih (by omega)
theorem ofP_delT (hpos : 0 < L) : ofP (delT d L) = one1 := by
  funext a
  unfold ofP one1
  rw [delT_len]
  split
  · rename_i hc
    rcases Nat.lt_or_ge a.toNat L with h | h
    · rw [delT_at h]
      split <;> rfl
    · omega
  · rfl
theorem listE_of (hy : ∀ y ∈ l, XOk y) : listE l = 0 := by
  induction l with
  | nil => rfl
  | cons y ys ih => simp only [listE]; rw [if_pos (validE_of (hy y (by simp)))]; exact ih (fun u hu => hy u (by simp [hu]))
theorem delT_ok (h12 : L ≤ 12) : ∀ y ∈ delT d L, XOk y := fun y hy => by
  obtain ⟨i, hi, rfl⟩ := List.getElem_of_mem hy
  have hi2 : i < L := by rw [delT_len] at hi; exact hi
  have e := delT_at (d := d) hi2
  rw [List.getD_eq_getElem?_getD, List.getElem?_eq_getElem hi, Option.getD_some] at e
  rw [e]
  split
  · exact xok_con
  · exact xok_srv (by omega)
def bigX (x : Ex) : Bool := decide (61 ≤ size 61 one1 x)
theorem subE_T (hv : validE x = 0) (hpos : 0 < L) (h12 : L ≤ 12) : (subE mk x (delT d L)).2 = if bigX x = true then 3 else 0 := by
  have h2 := listE_of (delT_ok (d := d) h12)
  unfold bigX
  by_cases h3 : 61 ≤ size 61 (ofP (delT d L)) x
  · rw [subE_3 hv h2 h3]; rw [ofP_delT hpos] at h3; simp [h3]
  · rw [subE_4 hv h2 h3]; rw [ofP_delT hpos] at h3; simp [h3]
theorem delE_eq (hl : ∀ i, i < n → validE (l.getD i default) = 0) (hpos : 0 < L) (h12 : L ≤ 12) : delE mk l (delT d L) d n = if (List.range n).any (fun i => !bit d i && bigX (l.getD i default)) = true then 3 else 0 := by
  induction n with
  | zero => rfl
  | succ n ih =>
    have ih := ih (fun i hi => hl i (by omega))
    have hv := hl n (by omega)
    simp only [delE, ih, List.range_succ, List.any_append, List.any_cons, List.any_nil, Bool.or_false]
    cases h1 : (List.range n).any (fun i => !bit d i && bigX (l.getD i default)) with
    | true => simp
    | false =>
      simp only [Bool.false_eq_true, if_false, Bool.false_or, ne_eq, not_true]
      unfold delY
      cases hb : bit d n with
      | true => simp
      | false => simp only [Bool.false_eq_true, if_false, Bool.not_false, Bool.true_and]; exact subE_T hv hpos h12
theorem mkok_P : MkOk mkP := ⟨fun _ _ => rfl, fun _ _ => rfl, fun _ _ => rfl, fun _ _ => rfl, fun _ _ => rfl⟩
theorem mkok_R : MkOk mkR := ⟨fun _ _ => rfl, fun _ _ => rfl, fun _ _ => rfl, fun _ _ => rfl, fun _ _ => rfl⟩
def KN (n : Nd) : Prop := n.w.length < 2^47 ∧ n.k.length ≤ 1000
theorem KN_of (hs : Short x) (hk : KS x) (hm : MkOk mk) : ∀ j, j < x.nodes.length → ∀ ks, ks.length = (x.nodes.getD j default).k.length → KN (mk (x.nodes.getD j default) ks) := fun j hj ks e => by
  unfold KN; rw [hm.w, hm.k, e]; exact ⟨(hs.2 j hj).1, hk j hj⟩
theorem short_T : ∀ y ∈ delT d L, Short y ∧ KS y := by
  intro y hy
  obtain ⟨i, hi, rfl⟩ := List.getElem_of_mem hy
  have hi2 : i < L := by rw [delT_len] at hi; exact hi
  have e := delT_at (d := d) hi2
  rw [List.getD_eq_getElem?_getD, List.getElem?_eq_getElem hi, Option.getD_some] at e
  rw [e]
  split
  · exact ⟨short_conE, ks_con⟩
  · exact ⟨short_srv, (XF_srv _).ks⟩
theorem sub_X (hm : MkOk mk) (hv : validE x = 0) (hs : Short x) (hk : KS x) (hpos : 0 < L) (h12 : L ≤ 12) (hb : bigX x = false) :
    validE (subE mk x (delT d L)).1 = 0 ∧ Short (subE mk x (delT d L)).1 ∧ KS (subE mk x (delT d L)).1 ∧ ∀ h, hold h (subE mk x (delT d L)).1 = hold (subH h (delT d L)) x := by
  have hx := validE_ok hv
  have hT := delT_ok (d := d) h12
  have h3 : ¬ 61 ≤ size 61 (ofP (delT d L)) x := by rw [ofP_delT hpos]; exact of_decide_eq_false hb
  rw [subE_4 hv (listE_of hT) h3]
  have hf := growX_few (mk := mk) hx hT h3
  have hg := fun (h : Int → Bool) => growX_ok (h := h) (Pn := KN) (l := delT d L) hm hx hT (fun y hy => by
    rcases hy with rfl | hy
    · exact KN_of hs hk hm
    · exact KN_of (short_T y hy).1 (short_T y hy).2 hm)
  generalize growX mk x (delT d L) = G at *
  have h0 := hg (fun _ => false)
  refine ⟨validE_of ⟨by show 0 < G.length; omega, hf.1, fun j hj => (h0.ok j (Nat.zero_le _) hj).1, by show 0 ≤ (G.length : Int) - 1 ∧ (G.length : Int) - 1 < G.length; omega⟩, ⟨by show G.length < 2^42; omega, fun j hj => ?_⟩, fun j hj => (h0.ok j (Nat.zero_le _) hj).2.2, fun h => ?_⟩
  · have := (h0.ok j (Nat.zero_le _) hj).2
    exact ⟨this.1, by have := this.2; show (G.getD j default).k.length < 2^47; omega⟩
  · have := (hg h).val
    unfold hold at this ⊢
    rw [show ((G.length : Int) - 1).toNat = G.length - 1 by omega]; exact this
theorem subH_T (hpos : 0 < L) (h12 : L ≤ 12) (hq : ∀ i, bit q i = true → i < L) (hd : ∀ i, bit d i = true → i < L) (a : Int) (ha : 0 ≤ a) : subH (bitI (q % 65536)) (delT d L) a = bitI (sor q d % 65536) a := by
  obtain ⟨i, rfl⟩ := Int.eq_ofNat_of_zero_le ha
  unfold subH
  rw [delT_len]
  have e1 : bitI (sor q d % 65536) (i : Int) = bit (sor q d) i := by rw [bitI_n]; rfl
  have e2 : bitI (q % 65536) (i : Int) = bit q i := by rw [bitI_n]; rfl
  rw [e1, bit_sor]
  split
  · rename_i hi
    have hi : i < L := by omega
    rw [show (i : Int).toNat = i by omega, delT_at hi]
    cases hb : bit d i with
    | true => simp [hold_con]
    | false => simp only [Bool.false_eq_true, if_false, Bool.or_false]; rw [hold_srv, e2]
  · rename_i hi
    rw [e2]
    cases hb : bit d i with
    | true => exact absurd (hd i hb) (by omega)
    | false => simp
end Go.Proofs.YtgnkcohlfdddnaaDoor
/- Fe21. -/
set_option linter.unusedVariables false
set_option linter.unusedSectionVars false
set_option linter.unusedSimpArgs false
set_option maxHeartbeats 1000000
namespace Go.Proofs.YtgnkcohlfdddnaaDoor
open Go Go.Sy Go.Bp
variable {n i j m q s d L N : Nat} {l T : List Ex} {mk : Nd → List Int → Nd} {x : Ex} {h g : Int → Bool}
theorem delL_at (hi : i < n) : (delL mk l T d n).getD i default = (delY mk l T d i).1 := by
  induction n with
  | zero => omega
  | succ n ih =>
    show (delL mk l T d n ++ [_]).getD i default = _
    by_cases e : i = n
    · subst e
      have := getD_app2 (a := delL mk l T d i) (x := (delY mk l T d i).1) (d := (default : Ex))
      rw [delL_len] at this; exact this
    · rw [getD_app1 (by rw [delL_len]; omega)]; exact ih (by omega)
theorem del_LOk (hm : MkOk mk) (hl : LOk l) (hL : l.length = L) (hb : ∀ i, i < L → bit d i = false → bigX (l.getD i default) = false) : LOk (delL mk l (delT d L) d L) := by
  have hp := hl.pos; have hle := hl.le
  refine ⟨by rw [delL_len]; omega, by rw [delL_len]; omega, fun i hi => ?_⟩
  rw [delL_len] at hi
  rw [delL_at hi]
  unfold delY
  cases hbi : bit d i with
  | true => simp only [if_true]; exact ⟨validE_of xok_con, short_conE, ks_con⟩
  | false =>
    simp only [Bool.false_eq_true, if_false]
    have ho := hl.ok i (by omega)
    have := sub_X (d := d) hm ho.1 ho.2.1 ho.2.2 (by omega : 0 < L) (by omega) (hb i hi hbi)
    exact ⟨this.1, this.2.1, this.2.2.1⟩
theorem del_sat (hm : MkOk mk) (hl : LOk l) (hL : l.length = L) (hb : ∀ i, i < L → bit d i = false → bigX (l.getD i default) = false) (hd : ∀ i, bit d i = true → i < L) (hq : ∀ i, bit q i = true → i < L) (hi : i < L) :
    satP (delL mk l (delT d L) d L) q i = (!bit d i && satP l (sor q d) i) := by
  have hp := hl.pos; have hle := hl.le
  unfold satP
  rw [delL_at hi]
  unfold delY
  cases hbi : bit d i with
  | true => simp only [if_true, hold_con]; rfl
  | false =>
    simp only [Bool.false_eq_true, if_false, Bool.not_false, Bool.true_and]
    have ho := hl.ok i (by omega)
    have := (sub_X (d := d) hm ho.1 ho.2.1 ho.2.2 (by omega : 0 < L) (by omega) (hb i hi hbi)).2.2.2
    rw [this]
    exact hold_ext (validE_ok ho.1) (fun a ha => subH_T (by omega) (by omega) hq hd a ha)
theorem del_isQ (hm : MkOk mk) (hl : LOk l) (hL : l.length = L) (hb : ∀ i, i < L → bit d i = false → bigX (l.getD i default) = false) (hd : ∀ i, bit d i = true → i < L) (hq : ∀ i, bit q i = true → i < L) (h0 : ¬ q % 65536 = 0) :
    isQ (delL mk l (delT d L) d L) q = (((memN q 16).all fun i => !bit d i) && quoP l d q) := by
  have hle := hl.le
  rw [isQ_quo (by rw [delL_len]; omega) (fun i hi => by rw [delL_len]; exact hq i hi) h0]
  unfold quoP
  rw [show sor q 0 = q from Nat.or_zero q, Bool.eq_iff_iff, Bool.and_eq_true, List.all_eq_true, List.all_eq_true, List.all_eq_true]
  have hmem : ∀ i ∈ memN q 16, i < L := fun i hi => by
    have := memN_mem.1 hi
    exact hq i (by unfold bit; rw [mod_bit this.1]; exact this.2)
  refine ⟨fun h => ⟨fun i hi => ?_, fun i hi => ?_⟩, fun h i hi => ?_⟩
  · have := h i hi; rw [del_sat hm hl hL hb hd hq (hmem i hi), Bool.and_eq_true] at this; exact this.1
  · have := h i hi; rw [del_sat hm hl hL hb hd hq (hmem i hi), Bool.and_eq_true] at this; exact this.2
  · rw [del_sat hm hl hL hb hd hq (hmem i hi), Bool.and_eq_true]; exact ⟨h.1 i hi, h.2 i hi⟩
theorem fulls_in (hn : n ≤ 6) (hq : q ∈ subs (fullS n)) : ∀ i, bit q i = true → i < n := fun i hi => by
  have := subs_sub hq hi
  rw [bit_full (by omega)] at this; exact of_decide_eq_true this
theorem subs_Z : ((List.range 7).all fun n => decide ((subs (fullS n)).getD 0 1 = 0) && decide (0 < (subs (fullS n)).length)) = true := by decide +kernel
theorem subs_0 (hn : n ≤ 6) : (subs (fullS n)).getD 0 0 = 0 ∧ 0 < (subs (fullS n)).length := by
  have := List.all_eq_true.1 subs_Z n (List.mem_range.2 (by omega))
  rw [Bool.and_eq_true] at this
  have h1 := of_decide_eq_true this.1; have h2 := of_decide_eq_true this.2
  refine ⟨?_, h2⟩
  rw [List.getD_eq_getElem?_getD, List.getElem?_eq_getElem h2, Option.getD_some] at h1 ⊢; exact h1
theorem chE_in (hf : fvE l = 0) (hL : l.length = L) (h12 : L ≤ 12) (hd : ∀ i, bit d i = true → i < L) : chE l d = 0 := by
  unfold chE
  rw [if_neg (by simp [hf]), if_pos]
  rw [sub_bit]; intro i hi; rw [hL, bit_full (by omega)]; exact decide_eq_true (hd i hi)
end Go.Proofs.YtgnkcohlfdddnaaDoor
