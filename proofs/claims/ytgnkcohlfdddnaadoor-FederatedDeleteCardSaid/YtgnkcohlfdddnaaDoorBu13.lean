/- Trees written out: the program's side, joined. No condition. -/
import Derived.Test.YtgnkcohlfdddnaaDoorBu12
set_option linter.unusedVariables false
set_option linter.unusedSectionVars false
set_option linter.unusedSimpArgs false
set_option maxRecDepth 20000
namespace Go.Proofs.YtgnkcohlfdddnaaDoor
open Go Go.Sy Go.Bp
attribute [local irreducible] AO AL AC OpT ACall Ends DGo DRun Thn Blk Nxt
variable {z zl : Bool} {n i j m r L f q : Nat} {a y : Int} {x : Ex} {l : List Ex} {t : Nd} {out : List Nd}
theorem growG_lt (mk : Nd → List Int → Nd) (sub : List Nd → Nd → Option (List Nd)) (nodes : List Nd) (hs : ∀ o n o', sub o n = some o' → o.length < o'.length) (f i : Nat) (out : List Nd) : out.length < (growG mk sub nodes (f + 1) i out).length := by
  cases h : sub out (nodes.getD i default) with
  | some o => rw [growG_sub _ _ _ _ _ _ _ h]; exact hs _ _ _ h
  | none =>
    rw [growG_s _ _ _ _ _ _ h, List.length_append]
    have := gS_le (g := growG mk sub nodes f) (fun i o => growG_le _ _ _ (fun o n o' h => Nat.le_of_lt (hs o n o' h)) f i o) (nodes.getD i default).k (out, [])
    dsimp only at this; simp only [List.length_singleton]; omega
theorem subL_lt {mk : Nd → List Int → Nd} {l : List Ex} : ∀ o n o', subL mk l o n = some o' → o.length < o'.length := fun o n o' h => by
  unfold subL at h; split at h
  · rw [← Option.some.inj h]; exact growG_lt _ _ _ (fun _ _ _ h => by cases h) _ _ _
  · cases h
theorem gP_lt (hf : 0 < f) : out.length < (gP x l f i out).length := by
  obtain ⟨f, rfl⟩ : ∃ p, f = p + 1 := ⟨f - 1, by omega⟩
  exact growG_lt _ _ _ subL_lt _ _ _
theorem oQ_cnt (hf : 0 < f) (h : q ≤ t.k.length) : out.length + q ≤ (oQ x l f t out q).length := by
  induction q with
  | zero => rw [oQ_0]; exact Nat.le_refl _
  | succ q ih =>
    rw [oQ_s (by omega)]
    have := ih (by omega)
    have := gP_lt (x := x) (l := l) (i := (t.k.getD q default).toNat) (out := oQ x l f t out q) hf
    omega
theorem kids_le (ht : x.nodes.getD i default = t) (hs : subL mkP l out t = none) (hf : 0 < t.k.length → 0 < f) (hfin : (gP x l (f + 1) i out).length ≤ 1000) : t.k.length ≤ 1000 := by
  rcases Nat.eq_zero_or_pos t.k.length with h0 | h0
  · omega
  · have h1 := oQ_cnt (x := x) (l := l) (out := out) (hf h0) (Nat.le_refl t.k.length)
    have h2 := oQ_le (q := t.k.length) (f := f) ht hs
    omega
def Flag (x : Ex) : Prop := ∀ j, j < x.nodes.length → (x.nodes.getD j default).wz = true → (x.nodes.getD j default).w = []
theorem W_all (hx : XOk x) (hfl : Flag x) (hL : l.length = L) (hL2 : L < 2^40)
    (hsub : ∀ s : Int, 0 ≤ s → s < l.length → WOk (l.getD s.toNat default) (l.getD s.toNat default).root [] true 0 (grow0 mkP (l.getD s.toNat default))) :
    ∀ (f : Nat) (y : Int), 0 ≤ y → y < x.nodes.length → y.toNat < f → WOk x y l zl L (gP x l f y.toNat) := by
  intro f
  induction f with
  | zero => intro y _ _ h; omega
  | succ f ih =>
    intro y h0 h1 h2
    obtain ⟨i, rfl⟩ := Int.eq_ofNat_of_zero_le h0
    rw [Int.toNat_natCast] at h2 ⊢
    have hi : i < x.nodes.length := by omega
    have hno := hx.node i hi
    have hwz := hfl i hi
    generalize ht : x.nodes.getD i default = t at hno hwz
    by_cases hc : t.kind = 1 ∧ t.server < l.length
    · have hw := hsub t.server hno.srv.1 hc.2
      refine ⟨fun a hfin => ?_, fun out a ho hfin => ?_⟩
      · rw [gP_sub ht hc.1 hc.2] at hfin ⊢
        exact write_sub_z hi hx.few ht hc.1 hc.2 hno.srv.1 hL hL2 hw hfin
      · rw [gP_sub ht hc.1 hc.2] at hfin ⊢
        exact write_sub_s hi hx.few ht hc.1 hc.2 hno.srv.1 hL hL2 hw ho hfin
    · have hih : ∀ y : Int, 0 ≤ y → y < i → WOk x y l zl L (gP x l f y.toNat) := fun y hy0 hyi => ih y hy0 (by omega) (by omega)
      have hf : 0 < t.k.length → 0 < f := fun h => by
        have := hno.ks _ (getD_mem (d := default) h); omega
      have hwk : t.k.length ≤ 1000 → t.w.length ≤ 1000 := fun h => by
        by_cases hw : t.w = []
        · rw [hw]; simp
        · rw [hno.wl hw]; exact h
      refine ⟨fun a hfin => ?_, fun out a ho hfin => ?_⟩
      · have hk := kids_le ht (subL_none hc) hf hfin
        exact write_own_z hi hx.few ht hc hL hL2 hno hwz (hwk hk) hk hih hf hfin
      · have hk := kids_le ht (subL_none hc) hf hfin
        exact write_own_s hi hx.few ht hc hL hL2 hno hwz (hwk hk) hk hih ho hfin
theorem gP_nil (hx : XOk x) (f i : Nat) (out : List Nd) (hi : i < x.nodes.length) (hf : i < f) : gP x [] f i out = growG mkP sub0 x.nodes f i out := by
  unfold gP
  induction f generalizing i out with
  | zero => rfl
  | succ f ih =>
    have hno := hx.node i hi
    have e1 : subL mkP [] out (x.nodes.getD i default) = none := subL_nil hno.srv.1
    rw [growG_s _ _ _ _ _ _ e1, growG_s mkP sub0 x.nodes f i out rfl]
    have : ∀ (ks : List Int) (s : List Nd × List Int), (∀ k ∈ ks, 0 ≤ k ∧ k < i) → gS (growG mkP (subL mkP []) x.nodes f) ks s = gS (growG mkP sub0 x.nodes f) ks s := by
      intro ks
      induction ks with
      | nil => intro s _; rfl
      | cons k ks ih2 =>
        intro s h
        have hk := h k (by simp)
        simp only [gS]
        rw [ih k.toNat s.1 (by omega) (by omega), ih2 _ (fun y hy => h y (by simp [hy]))]
    rw [this _ _ hno.ks]
theorem W_0 (hx : XOk x) (hfl : Flag x) : WOk x x.root [] true 0 (grow0 mkP x) := by
  have h := W_all (zl := true) (L := 0) hx hfl (l := []) rfl (by omega) (fun s h0 h1 => by simp at h1; omega) (x.root.toNat + 1) x.root hx.root.1 hx.root.2 (by omega)
  have e : gP x [] (x.root.toNat + 1) x.root.toNat = grow0 mkP x := by
    funext out
    exact gP_nil hx _ _ _ (by have := hx.root; omega) (by omega)
  rw [e] at h; exact h
theorem W_l (hx : XOk x) (hfl : Flag x) (hl : ∀ y ∈ l, XOk y ∧ Flag y) (hL : l.length = L) (hL2 : L < 2^40) : WOk x x.root l zl L (gP x l (x.root.toNat + 1) x.root.toNat) :=
  W_all hx hfl hL hL2 (fun s h0 h1 => by
    have := hl (l.getD s.toNat default) (getD_mem (by omega))
    exact W_0 this.1 this.2) _ _ hx.root.1 hx.root.2 (by omega)
end Go.Proofs.YtgnkcohlfdddnaaDoor
