/- BpA: Bp1 Bp2 Bp3 Bp4 Bp5 Bp6 Bp7 Bp8 Bp9 Bp10 Bp11, merged. No condition. -/
/- Bp1. -/
set_option linter.unusedVariables false
set_option linter.unusedSectionVars false
set_option linter.unusedSimpArgs false
namespace Go.Bp

structure Nd where
  kind : Int
  server : Int
  need : Int
  wz : Bool
  w : List Int
  kz : Bool
  k : List Int
deriving DecidableEq
instance : Inhabited Nd := ⟨⟨0, 0, 0, true, [], true, []⟩⟩
structure Ex where
  nz : Bool
  nodes : List Nd
  root : Int
deriving DecidableEq
instance : Inhabited Ex := ⟨⟨true, [], 0⟩⟩

def srv (i : Int) : Ex := ⟨false, [⟨1, i, 0, true, [], true, []⟩], 0⟩
def sh (b : Int) (n : Nd) : Nd := { n with k := n.k.map (· + b) }
def nodesA (acc : List Nd) : List Ex → List Nd
  | [] => acc
  | x :: xs => nodesA (acc ++ x.nodes.map (sh acc.length)) xs
def rootsA (b : Nat) : List Ex → List Int
  | [] => []
  | x :: xs => (b + x.root) :: rootsA (b + x.nodes.length) xs
def topN (need : Int) (wz : Bool) (w : List Int) (ks : List Int) : Nd := ⟨2, 0, need, wz, w, ks.isEmpty, ks⟩
def thr (need : Int) (kids : List Ex) (wz : Bool) (w : List Int) : Ex :=
  ⟨false, nodesA [] kids ++ [topN need wz w (rootsA 0 kids)], (nodesA [] kids).length⟩

theorem nodesA_len (acc : List Nd) (xs : List Ex) : (nodesA acc xs).length = acc.length + (xs.map fun x => x.nodes.length).sum := by
  induction xs generalizing acc with
  | nil => simp [nodesA]
  | cons x xs ih => rw [nodesA, ih]; simp; omega
theorem nodesA_snoc (acc : List Nd) (xs : List Ex) (x : Ex) : nodesA acc (xs ++ [x]) = nodesA acc xs ++ x.nodes.map (sh (nodesA acc xs).length) := by
  induction xs generalizing acc with
  | nil => simp [nodesA]
  | cons y xs ih => simp only [List.cons_append, nodesA]; rw [ih]
theorem rootsA_len (b : Nat) (xs : List Ex) : (rootsA b xs).length = xs.length := by
  induction xs generalizing b with
  | nil => rfl
  | cons x xs ih => simp [rootsA, ih]
theorem rootsA_snoc (b : Nat) (xs : List Ex) (x : Ex) : rootsA b (xs ++ [x]) = rootsA b xs ++ [((b + (xs.map fun x => x.nodes.length).sum : Nat) : Int) + x.root] := by
  induction xs generalizing b with
  | nil => simp [rootsA]
  | cons y xs ih => simp only [List.cons_append, rootsA, ih]; simp; omega

def wt (n : Nd) (k : Nat) : Int := if n.w.length = 0 then 1 else n.w.getD k 0
def gotA (n : Nd) (l : List Bool) (k : Nat) : List Int → Int
  | [] => 0
  | x :: xs => (if l.getD x.toNat false then wt n k else 0) + gotA n l (k + 1) xs
def evN (h : Int → Bool) (l : List Bool) (n : Nd) : Bool := (decide (n.kind = 1) && h n.server) || (decide (n.kind = 2) && decide (n.need ≤ gotA n l 0 n.k))
def runA (h : Int → Bool) (acc : List Bool) : List Nd → List Bool
  | [] => acc
  | n :: ns => runA h (acc ++ [evN h acc n]) ns
def hold (h : Int → Bool) (x : Ex) : Bool := (runA h [] x.nodes).getD x.root.toNat false

theorem runA_len (h : Int → Bool) (acc : List Bool) (ns : List Nd) : (runA h acc ns).length = acc.length + ns.length := by
  induction ns generalizing acc with
  | nil => simp [runA]
  | cons n ns ih => rw [runA, ih]; simp; omega
theorem runA_app (h : Int → Bool) (acc : List Bool) (ns ms : List Nd) : runA h acc (ns ++ ms) = runA h (runA h acc ns) ms := by
  induction ns generalizing acc with
  | nil => rfl
  | cons n ns ih => simp only [List.cons_append, runA, ih]
theorem runA_pre (h : Int → Bool) (acc : List Bool) (ns : List Nd) : ∃ l, runA h acc ns = acc ++ l := by
  induction ns generalizing acc with
  | nil => exact ⟨[], by simp [runA]⟩
  | cons n ns ih =>
    obtain ⟨l, hl⟩ := ih (acc ++ [evN h acc n])
    exact ⟨evN h acc n :: l, by rw [runA, hl]; simp⟩
structure Good (x : Ex) : Prop where
  ne : x.nodes ≠ []
  root : x.root = (x.nodes.length : Int) - 1
  kids : ∀ n ∈ x.nodes, ∀ y ∈ n.k, 0 ≤ y
def cnt (l : List Bool) : Nat := (l.filter id).length
theorem gotA_one (n : Nd) (hw : n.w = []) (l : List Bool) (k : Nat) (ks : List Int) : gotA n l k ks = (cnt (ks.map fun y => l.getD y.toNat false) : Nat) := by
  induction ks generalizing k with
  | nil => rfl
  | cons x xs ih =>
    simp only [gotA, ih, List.map_cons]
    have : wt n k = 1 := by unfold wt; rw [hw]; rfl
    rw [this]
    unfold cnt
    cases l.getD x.toNat false
    · rw [if_neg (by simp), List.filter_cons_of_neg (by simp)]; omega
    · rw [if_pos rfl, List.filter_cons_of_pos rfl, List.length_cons]; omega
end Go.Bp
/- Bp2. -/
set_option linter.unusedVariables false
set_option linter.unusedSectionVars false
set_option linter.unusedSimpArgs false
namespace Go.Bp

def upTo (a : Int) (n : Nat) : List Int := (List.range n).map fun (i : Nat) => a + i
def servs (l : List Int) : List Ex := l.map srv
def servsN (l : List Int) (j : Nat) : List Ex := servs (l.take j)
theorem servsN_z {l : List Int} {j : Nat} (h : j = 0) : servsN l j = [] := by subst h; rfl
theorem servsN_s {l : List Int} {j : Nat} (h : j < l.length) : servsN l (j + 1) = servsN l j ++ [srv (l.getD j default)] := by
  unfold servsN servs
  rw [List.take_add_one, List.map_append]; simp [List.getD_eq_getElem?_getD, h]
theorem servsN_len {l : List Int} {j : Nat} (h : j ≤ l.length) : (servsN l j).length = j := by simp [servsN, servs]; omega
theorem servsN_all {l : List Int} {j : Nat} (h : j = l.length) : servsN l j = servs l := by subst h; simp [servsN]
theorem servs_len {l : List Int} : (servs l).length = l.length := by simp [servs]
theorem upTo_z {a : Int} {n : Nat} (h : n = 0) : upTo a n = [] := by subst h; rfl
theorem upTo_s {a : Int} {n : Nat} : upTo a (n + 1) = upTo a n ++ [a + n] := by simp [upTo, List.range_succ]
theorem upTo_ln {a : Int} {n : Nat} : (upTo a n).length = n := by simp [upTo]
theorem cnt_le (l : List Bool) : cnt l ≤ l.length := List.length_filter_le _ _
theorem cnt_all (l : List Bool) : decide (((l.length : Nat) : Int) ≤ (cnt l : Nat)) = l.all id := by
  induction l with
  | nil => rfl
  | cons b l ih =>
    have := cnt_le l
    cases b
    · have e : cnt (false :: l) = cnt l := by simp [cnt]
      rw [e]; simp; omega
    · have e : cnt (true :: l) = cnt l + 1 := by simp [cnt]
      rw [e, List.all_cons]; simp only [id, Bool.true_and]; rw [← ih, List.length_cons]
      apply decide_eq_decide.2; omega
theorem cnt_any (l : List Bool) : decide ((1 : Int) ≤ (cnt l : Nat)) = l.any id := by
  induction l with
  | nil => rfl
  | cons b l ih =>
    cases b
    · have e : cnt (false :: l) = cnt l := by simp [cnt]
      rw [e, ih]; simp
    · have e : cnt (true :: l) = cnt l + 1 := by simp [cnt]
      rw [e]; simp; omega
def full (h : Int → Bool) (a : Int) (n : Nat) : Bool := ((upTo a n).map h).all id
def some' (h : Int → Bool) (a : Int) (n : Nat) : Bool := ((upTo a n).map h).any id
def q3 (a b c : Bool) : Bool := decide ((2 : Int) ≤ (cnt [a, b, c] : Nat))
end Go.Bp
/- Bp3. -/
set_option linter.unusedVariables false
set_option linter.unusedSectionVars false
set_option linter.unusedSimpArgs false
set_option maxRecDepth 20000
namespace Go.Bp

def heavy (w : Int) : Bool := decide (w < 1) || decide (1000 < w)
def unk (i : Nat) (k : Int) : Bool := decide (k < 0) || decide ((i : Int) ≤ k)
def nodeE (n : Nd) (i : Nat) : Int :=
  if (n.kind ≠ 1 ∧ n.kind ≠ 2) ∨ (n.kind = 1 ∧ (n.need ≠ 0 ∨ n.w ≠ [] ∨ n.k ≠ [])) ∨ (n.kind = 2 ∧ n.server ≠ 0) then 1
  else if n.server < 0 ∨ 12 ≤ n.server ∨ n.need < 0 ∨ 100000 < n.need then 7
  else if n.w.any heavy = true then 7
  else if n.w ≠ [] ∧ n.w.length ≠ n.k.length then 6
  else if n.k.any (unk i) = true then 4 else 0
def nodesE (i : Nat) : List Nd → Int
  | [] => 0
  | n :: ns => if nodeE n i = 0 then nodesE (i + 1) ns else nodeE n i
def validE (x : Ex) : Int :=
  if x.nodes.length = 0 then 9 else if 60 < x.nodes.length then 3 else if nodesE 0 x.nodes ≠ 0 then nodesE 0 x.nodes else if x.root < 0 ∨ (x.nodes.length : Int) ≤ x.root then 4 else 0
theorem nodesE_app (i : Nat) (a b : List Nd) (h : nodesE i a = 0) : nodesE i (a ++ b) = nodesE (i + a.length) b := by
  induction a generalizing i with
  | nil => simp
  | cons n ns ih =>
    simp only [nodesE] at h
    by_cases h0 : nodeE n i = 0
    · rw [if_pos h0] at h
      simp only [List.cons_append, nodesE, if_pos h0, List.length_cons]
      rw [ih (i + 1) h]; congr 1; omega
    · rw [if_neg h0] at h; exact absurd h h0
theorem nodesE_at {a : List Nd} {j : Nat} (hj : j < a.length) (h : nodesE 0 (a.take j) = 0) : nodesE 0 a = if nodeE (a.getD j default) j = 0 then nodesE (j + 1) (a.drop (j + 1)) else nodeE (a.getD j default) j := by
  have e : a = a.take j ++ a.getD j default :: a.drop (j + 1) := by
    have : a.drop j = a.getD j default :: a.drop (j + 1) := by rw [List.drop_eq_getElem_cons hj]; simp [List.getD_eq_getElem?_getD, hj]
    rw [← this, List.take_append_drop]
  conv => lhs; rw [e]
  rw [nodesE_app 0 _ _ h, Nat.zero_add, List.length_take, Nat.min_eq_left (by omega)]; rfl
theorem nodesE_bad {a : List Nd} {j : Nat} (hj : j < a.length) (h : nodesE 0 (a.take j) = 0) (hn : nodeE (a.getD j default) j ≠ 0) : nodesE 0 a = nodeE (a.getD j default) j := by
  rw [nodesE_at hj h, if_neg hn]
theorem nodesE_s {a : List Nd} {j : Nat} (hj : j < a.length) (h : nodesE 0 (a.take j) = 0) (hn : nodeE (a.getD j default) j = 0) : nodesE 0 (a.take (j + 1)) = 0 := by
  have e : a.take (j + 1) = a.take j ++ [a.getD j default] := by rw [List.take_add_one]; simp [List.getD_eq_getElem?_getD, hj]
  rw [e, nodesE_app 0 _ _ h, Nat.zero_add, List.length_take, Nat.min_eq_left (by omega)]
  simp only [nodesE, if_pos hn]
theorem nodesE_all {a : List Nd} (h : nodesE 0 a = 0) {j : Nat} (hj : j < a.length) : nodeE (a.getD j default) j = 0 := by
  have main : ∀ (a : List Nd) (i j : Nat), nodesE i a = 0 → j < a.length → nodeE (a.getD j default) (i + j) = 0 := by
    intro a
    induction a with
    | nil => intro i j _ hj; simp at hj
    | cons n ns ih =>
      intro i j h hj
      simp only [nodesE] at h
      by_cases h0 : nodeE n i = 0
      · rw [if_pos h0] at h
        cases j with
        | zero => simpa using h0
        | succ j =>
          have := ih (i + 1) j h (by simpa using hj)
          rw [show i + 1 + j = i + (j + 1) by omega] at this
          simpa using this
      · rw [if_neg h0] at h; exact absurd h h0
  have := main a 0 j h hj
  rwa [Nat.zero_add] at this
structure NOk (n : Nd) (i : Nat) : Prop where
  kind : n.kind = 1 ∨ n.kind = 2
  srv : 0 ≤ n.server ∧ n.server < 12
  leaf : n.kind = 1 → n.need = 0 ∧ n.w = [] ∧ n.k = []
  zero : n.kind = 2 → n.server = 0
  need : 0 ≤ n.need ∧ n.need ≤ 100000
  ws : ∀ w ∈ n.w, 1 ≤ w ∧ w ≤ 1000
  wl : n.w ≠ [] → n.w.length = n.k.length
  ks : ∀ k ∈ n.k, 0 ≤ k ∧ k < i
theorem nodeE_ok {n : Nd} {i : Nat} (h : nodeE n i = 0) : NOk n i := by
  unfold nodeE at h
  split at h
  · cases h
  · rename_i h1
    split at h
    · cases h
    · rename_i h2
      split at h
      · cases h
      · rename_i h3
        split at h
        · cases h
        · rename_i h4
          split at h
          · cases h
          · rename_i h5
            refine ⟨?_, by omega, fun hk => ?_, fun hk => ?_, by omega, fun w hw => ?_, fun hw => ?_, fun k hk => ?_⟩
            · refine Classical.byContradiction fun hn => h1 (.inl ?_); omega
            · refine Classical.byContradiction fun hn => h1 (.inr (.inl ⟨hk, ?_⟩))
              by_cases a : n.need = 0
              · by_cases b : n.w = []
                · by_cases c : n.k = []
                  · exact absurd ⟨a, b, c⟩ hn
                  · exact .inr (.inr c)
                · exact .inr (.inl b)
              · exact .inl a
            · refine Classical.byContradiction fun hn => h1 (.inr (.inr ⟨hk, hn⟩))
            · have : heavy w = false := by
                rw [Bool.eq_false_iff]; intro hb; exact h3 (List.any_eq_true.2 ⟨w, hw, hb⟩)
              simp [heavy] at this; omega
            · refine Classical.byContradiction fun hn => h4 ⟨hw, hn⟩
            · have : unk i k = false := by
                rw [Bool.eq_false_iff]; intro hb; exact h5 (List.any_eq_true.2 ⟨k, hk, hb⟩)
              simp [unk] at this; omega
structure XOk (x : Ex) : Prop where
  pos : 0 < x.nodes.length
  few : x.nodes.length ≤ 60
  node : ∀ j, j < x.nodes.length → NOk (x.nodes.getD j default) j
  root : 0 ≤ x.root ∧ x.root < x.nodes.length
theorem validE_ok {x : Ex} (h : validE x = 0) : XOk x := by
  unfold validE at h
  split at h
  · cases h
  · split at h
    · cases h
    · split at h
      · rename_i h3; exact absurd h h3
      · rename_i h3
        split at h
        · cases h
        · refine ⟨by omega, by omega, fun j hj => nodeE_ok (nodesE_all (Decidable.not_not.1 h3) hj), by omega⟩
def core (n : Nd) : Int × Int × Int × List Int × List Int := (n.kind, n.server, n.need, n.w, n.k)
def growK (g : Nat → List Nd → List Nd) (mk : Nd → List Int → Nd) (n : Nd) : List Int → List Nd → List Int → List Nd
  | [], out, ks => out ++ [mk n ks]
  | k :: kk, out, ks => growK g mk n kk (g k.toNat out) (ks ++ [((g k.toNat out).length : Int) - 1])
def growG (mk : Nd → List Int → Nd) (sub : List Nd → Nd → Option (List Nd)) (nodes : List Nd) : Nat → Nat → List Nd → List Nd
  | 0, _, out => out
  | f + 1, i, out => match sub out (nodes.getD i default) with
    | some out' => out'
    | none => growK (growG mk sub nodes f) mk (nodes.getD i default) (nodes.getD i default).k out []
end Go.Bp
/- Bp4. -/
set_option linter.unusedVariables false
set_option linter.unusedSectionVars false
set_option linter.unusedSimpArgs false
set_option maxRecDepth 20000
namespace Go.Bp
structure NF (c : Nat) (n : Nd) : Prop where
  wz : n.wz = true → n.w = []
  kzz : n.kz = n.k.isEmpty
  wl : n.w.length ≤ 1000
  kl : n.k.length ≤ 1000
  ky : ∀ y ∈ n.k, 0 ≤ y ∧ y < c
structure XF (b : Nat) (x : Ex) : Prop where
  ne : x.nodes ≠ []
  root : x.root = (x.nodes.length : Int) - 1
  few : x.nodes.length ≤ b
  nd : ∀ n ∈ x.nodes, NF x.nodes.length n
theorem XF.mono {b c : Nat} {x : Ex} (h : XF b x) (hb : b ≤ c) : XF c x := ⟨h.ne, h.root, Nat.le_trans h.few hb, h.nd⟩
theorem XF.good {b : Nat} {x : Ex} (h : XF b x) : Good x := ⟨h.ne, h.root, fun n hn y hy => ((h.nd n hn).ky y hy).1⟩
theorem XF_srv (i : Int) : XF 1 (srv i) := ⟨by simp [srv], by simp [srv], by simp [srv], fun n hn => by
  simp [srv] at hn; subst hn; exact ⟨fun _ => rfl, rfl, by simp, by simp, by simp⟩⟩
theorem NF.sh {c d : Nat} {n : Nd} (h : NF c n) : NF (d + c) (sh d n) := ⟨h.wz, by rw [show (Bp.sh d n).kz = n.kz from rfl, h.kzz]; show _ = (n.k.map _).isEmpty; cases n.k <;> rfl, h.wl, by
  show (n.k.map _).length ≤ 1000
  rw [List.length_map]; exact h.kl, fun y hy => by
  obtain ⟨u, hu, rfl⟩ := List.mem_map.1 hy
  have := h.ky u hu
  show 0 ≤ u + (d : Int) ∧ u + (d : Int) < _
  omega⟩
theorem NF.mono {c d : Nat} {n : Nd} (h : NF c n) (hc : c ≤ d) : NF d n := ⟨h.wz, h.kzz, h.wl, h.kl, fun y hy => by have := h.ky y hy; omega⟩
theorem nodesA_few (b : Nat) (acc : List Nd) (xs : List Ex) (hx : ∀ x ∈ xs, XF b x) : (nodesA acc xs).length ≤ acc.length + xs.length * b := by
  induction xs generalizing acc with
  | nil => simp [nodesA]
  | cons x xs ih =>
    have h1 := ih (acc ++ x.nodes.map (sh acc.length)) (fun z hz => hx z (by simp [hz]))
    have h2 := (hx x (by simp)).few
    rw [List.length_append, List.length_map] at h1
    rw [nodesA, List.length_cons, Nat.add_mul]; omega
end Go.Bp
/- Bp5. -/
set_option linter.unusedVariables false
set_option linter.unusedSectionVars false
set_option linter.unusedSimpArgs false
namespace Go.Bp
def ix {α : Type} (p : α → Bool) (l : List α) : Int := match l.findIdx? p with
  | some i => i
  | none => -1
section
variable {α : Type} [Inhabited α] {p : α → Bool} {l : List α} {j : Nat}
theorem ix_hit (hj : j < l.length) (h : ∀ i, i < j → p (l.getD i default) = false) (hp : p (l.getD j default) = true) : ix p l = j := by
  have : l.findIdx? p = some j := by
    rw [List.findIdx?_eq_some_iff_getElem]
    refine ⟨hj, by simpa [List.getD_eq_getElem?_getD, hj] using hp, fun i hi => ?_⟩
    have := h i hi
    have hil : i < l.length := by omega
    simpa [List.getD_eq_getElem?_getD, hil] using this
  unfold ix; rw [this]
theorem ix_none (h : ∀ i, i < l.length → p (l.getD i default) = false) : ix p l = -1 := by
  have : l.findIdx? p = none := by
    rw [List.findIdx?_eq_none_iff]
    intro x hx
    obtain ⟨i, hi, rfl⟩ := List.getElem_of_mem hx
    have := h i hi
    simpa [List.getD_eq_getElem?_getD, hi] using this
  unfold ix; rw [this]
theorem nx_false (h : ∀ i, i < j → p (l.getD i default) = false) (hp : p (l.getD j default) = false) : ∀ i, i < j + 1 → p (l.getD i default) = false := fun i hi => by
  by_cases e : i = j
  · subst e; exact hp
  · exact h i (by omega)
theorem ix_any : decide (0 ≤ ix p l) = l.any p := by
  unfold ix
  cases h : l.findIdx? p with
  | none =>
    rw [List.findIdx?_eq_none_iff] at h
    have : l.any p = false := by rw [List.any_eq_false]; intro x hx; simp [h x hx]
    rw [this]; rfl
  | some i =>
    rw [List.findIdx?_eq_some_iff_getElem] at h
    obtain ⟨hi, hp, _⟩ := h
    have : l.any p = true := List.any_eq_true.2 ⟨_, List.getElem_mem hi, hp⟩
    rw [this]; simp
end
def badK (n : Nd) : Prop := (n.kind ≠ 1 ∧ n.kind ≠ 2) ∨ (n.kind = 1 ∧ (n.need ≠ 0 ∨ 0 < n.w.length ∨ 0 < n.k.length)) ∨ (n.kind = 2 ∧ n.server ≠ 0)
def badR (n : Nd) : Prop := n.server < 0 ∨ 12 ≤ n.server ∨ n.need < 0 ∨ 100000 < n.need
theorem ne_len {α : Type} {l : List α} : l ≠ [] ↔ 0 < l.length := by cases l <;> simp
theorem nodeE_k {n : Nd} {i : Nat} (h : badK n) : nodeE n i = 1 := by
  unfold nodeE; rw [if_pos]
  unfold badK at h; rw [ne_len, ne_len]; exact h
theorem nodeE_nk {n : Nd} {i : Nat} (h : ¬ badK n) : nodeE n i = if n.server < 0 ∨ 12 ≤ n.server ∨ n.need < 0 ∨ 100000 < n.need then 7 else if n.w.any heavy = true then 7 else if n.w ≠ [] ∧ n.w.length ≠ n.k.length then 6 else if n.k.any (unk i) = true then 4 else 0 := by
  unfold nodeE; rw [if_neg]
  unfold badK at h; rw [ne_len, ne_len]; exact h
theorem nodeE_r {n : Nd} {i : Nat} (h : ¬ badK n) (h2 : badR n) : nodeE n i = 7 := by unfold badR at h2; rw [nodeE_nk h, if_pos h2]
theorem nodeE_h {n : Nd} {i : Nat} (h : ¬ badK n) (h2 : ¬ badR n) (h3 : n.w.any heavy = true) : nodeE n i = 7 := by unfold badR at h2; rw [nodeE_nk h, if_neg h2, if_pos h3]
theorem nodeE_6 {n : Nd} {i : Nat} (h : ¬ badK n) (h2 : ¬ badR n) (h3 : n.w.any heavy = false) (h4 : 0 < n.w.length ∧ n.w.length ≠ n.k.length) : nodeE n i = 6 := by
  unfold badR at h2; rw [nodeE_nk h, if_neg h2, if_neg (by simp [h3]), if_pos (by rw [ne_len]; exact h4)]
theorem nodeE_4 {n : Nd} {i : Nat} (h : ¬ badK n) (h2 : ¬ badR n) (h3 : n.w.any heavy = false) (h4 : ¬ (0 < n.w.length ∧ n.w.length ≠ n.k.length)) (h5 : n.k.any (unk i) = true) : nodeE n i = 4 := by
  unfold badR at h2; rw [nodeE_nk h, if_neg h2, if_neg (by simp [h3]), if_neg (by rw [ne_len]; exact h4), if_pos h5]
theorem nodeE_0 {n : Nd} {i : Nat} (h : ¬ badK n) (h2 : ¬ badR n) (h3 : n.w.any heavy = false) (h4 : ¬ (0 < n.w.length ∧ n.w.length ≠ n.k.length)) (h5 : n.k.any (unk i) = false) : nodeE n i = 0 := by
  unfold badR at h2; rw [nodeE_nk h, if_neg h2, if_neg (by simp [h3]), if_neg (by rw [ne_len]; exact h4), if_neg (by simp [h5])]
theorem validE_9 {x : Ex} (h : x.nodes.length = 0) : validE x = 9 := by unfold validE; rw [if_pos h]
theorem validE_3 {x : Ex} (h : 60 < x.nodes.length) : validE x = 3 := by unfold validE; rw [if_neg (by omega), if_pos h]
theorem validE_n {x : Ex} {j : Nat} (h1 : x.nodes.length ≤ 60) (hj : j < x.nodes.length) (h : nodesE 0 (x.nodes.take j) = 0) (hn : ¬ nodeE (x.nodes.getD j default) j = 0) : validE x = nodeE (x.nodes.getD j default) j := by
  have e := nodesE_bad hj h hn
  unfold validE; rw [if_neg (by omega), if_neg (by omega), if_pos (by rw [e]; exact hn), e]
theorem validE_4 {x : Ex} (h0 : 0 < x.nodes.length) (h1 : x.nodes.length ≤ 60) (h : nodesE 0 x.nodes = 0) (hr : x.root < 0 ∨ (x.nodes.length : Int) ≤ x.root) : validE x = 4 := by
  unfold validE; rw [if_neg (by omega), if_neg (by omega), if_neg (by simp [h]), if_pos hr]
theorem validE_0 {x : Ex} (h0 : 0 < x.nodes.length) (h1 : x.nodes.length ≤ 60) (h : nodesE 0 x.nodes = 0) (hr : ¬ (x.root < 0 ∨ (x.nodes.length : Int) ≤ x.root)) : validE x = 0 := by
  unfold validE; rw [if_neg (by omega), if_neg (by omega), if_neg (by simp [h]), if_neg hr]
end Go.Bp
/- Bp6. -/
set_option linter.unusedVariables false
set_option linter.unusedSectionVars false
set_option linter.unusedSimpArgs false
set_option maxRecDepth 20000
namespace Go.Bp
def gS (g : Nat → List Nd → List Nd) : List Int → List Nd × List Int → List Nd × List Int
  | [], s => s
  | k :: kk, s => gS g kk (g k.toNat s.1, s.2 ++ [((g k.toNat s.1).length : Int) - 1])
theorem growK_gS (g : Nat → List Nd → List Nd) (mk : Nd → List Int → Nd) (n : Nd) (ks : List Int) (out : List Nd) (a : List Int) : growK g mk n ks out a = (gS g ks (out, a)).1 ++ [mk n (gS g ks (out, a)).2] := by
  induction ks generalizing out a with
  | nil => rfl
  | cons k kk ih => simp only [growK, gS, ih]
theorem take_snoc {l : List Int} {q : Nat} (h : q < l.length) : l.take (q + 1) = l.take q ++ [l.getD q default] := by
  rw [List.take_add_one]; simp [List.getD_eq_getElem?_getD, h]
theorem growG_s (mk : Nd → List Int → Nd) (sub : List Nd → Nd → Option (List Nd)) (nodes : List Nd) (f i : Nat) (out : List Nd) (h : sub out (nodes.getD i default) = none) :
    growG mk sub nodes (f + 1) i out = (gS (growG mk sub nodes f) (nodes.getD i default).k (out, [])).1 ++ [mk (nodes.getD i default) (gS (growG mk sub nodes f) (nodes.getD i default).k (out, [])).2] := by
  rw [growG, h, growK_gS]
theorem growG_sub (mk : Nd → List Int → Nd) (sub : List Nd → Nd → Option (List Nd)) (nodes : List Nd) (f i : Nat) (out o : List Nd) (h : sub out (nodes.getD i default) = some o) : growG mk sub nodes (f + 1) i out = o := by
  rw [growG, h]
def foldS (c : Int) (acc : List Int) (s : Int) : List Int → Int
  | [] => s
  | y :: ys => foldS c acc (min c (s + acc.getD y.toNat 0)) ys
def szN (c : Int) (of : Int → Int) (acc : List Int) (n : Nd) : Int := foldS c acc (if n.kind = 1 then of n.server else 1) n.k
def szA (c : Int) (of : Int → Int) (acc : List Int) : List Nd → List Int
  | [] => acc
  | n :: ns => szA c of (acc ++ [szN c of acc n]) ns
theorem foldS_snoc (c : Int) (acc : List Int) (s : Int) (ks : List Int) (k : Int) : foldS c acc s (ks ++ [k]) = min c (foldS c acc s ks + acc.getD k.toNat 0) := by
  induction ks generalizing s with
  | nil => rfl
  | cons y ks ih => simp only [List.cons_append, foldS, ih]
theorem foldS_s {c : Int} {acc : List Int} {s : Int} {ks : List Int} {q : Nat} (h : q < ks.length) : foldS c acc s (ks.take (q + 1)) = min c (foldS c acc s (ks.take q) + acc.getD (ks.getD q default).toNat 0) := by
  rw [take_snoc h, foldS_snoc]
theorem szA_snoc (c : Int) (of : Int → Int) (acc : List Int) (ns : List Nd) (n : Nd) : szA c of acc (ns ++ [n]) = szA c of acc ns ++ [szN c of (szA c of acc ns) n] := by
  induction ns generalizing acc with
  | nil => rfl
  | cons m ns ih => simp only [List.cons_append, szA, ih]
theorem szA_s {c : Int} {of : Int → Int} {ns : List Nd} {q : Nat} (h : q < ns.length) : szA c of [] (ns.take (q + 1)) = szA c of [] (ns.take q) ++ [szN c of (szA c of [] (ns.take q)) (ns.getD q default)] := by
  have e : ns.take (q + 1) = ns.take q ++ [ns.getD q default] := by rw [List.take_add_one]; simp [List.getD_eq_getElem?_getD, h]
  rw [e, szA_snoc]
theorem szA_len (c : Int) (of : Int → Int) (acc : List Int) (ns : List Nd) : (szA c of acc ns).length = acc.length + ns.length := by
  induction ns generalizing acc with
  | nil => simp [szA]
  | cons n ns ih => rw [szA, ih]; simp; omega
def size (c : Int) (of : Int → Int) (x : Ex) : Int := (szA c of [] (x.nodes.take (x.root.toNat + 1))).getD x.root.toNat 0
theorem foldS_range {c : Int} {acc : List Int} (hc : 1 ≤ c) (ha : ∀ y ∈ acc, 0 ≤ y) {s : Int} (hs : 0 ≤ s ∧ s ≤ c) (ks : List Int) : s ≤ foldS c acc s ks ∧ foldS c acc s ks ≤ c := by
  induction ks generalizing s with
  | nil => exact ⟨Int.le_refl _, hs.2⟩
  | cons k ks ih =>
    have h0 : 0 ≤ acc.getD k.toNat 0 := by
      rw [List.getD_eq_getElem?_getD]
      rcases Nat.lt_or_ge k.toNat acc.length with h | h
      · rw [List.getElem?_eq_getElem h]; exact ha _ (List.getElem_mem h)
      · rw [List.getElem?_eq_none h]; exact Int.le_refl _
    have := ih (s := min c (s + acc.getD k.toNat 0)) ⟨by omega, by omega⟩
    simp only [foldS]; omega
theorem szN_range {c : Int} {of : Int → Int} {acc : List Int} {n : Nd} (hc : 1 ≤ c) (ha : ∀ y ∈ acc, 0 ≤ y) (ho : n.kind = 1 → 1 ≤ of n.server ∧ of n.server ≤ c) : 1 ≤ szN c of acc n ∧ szN c of acc n ≤ c := by
  unfold szN
  by_cases h : n.kind = 1
  · rw [if_pos h]
    have := foldS_range hc ha (s := of n.server) (by have := ho h; omega) n.k
    have := ho h; omega
  · rw [if_neg h]
    have := foldS_range hc ha (s := 1) (by omega) n.k
    omega
theorem szA_range {c : Int} {of : Int → Int} (hc : 1 ≤ c) (ns : List Nd) (ho : ∀ n ∈ ns, n.kind = 1 → 1 ≤ of n.server ∧ of n.server ≤ c) (acc : List Int) (ha : ∀ y ∈ acc, 1 ≤ y ∧ y ≤ c) : ∀ y ∈ szA c of acc ns, 1 ≤ y ∧ y ≤ c := by
  induction ns generalizing acc with
  | nil => exact ha
  | cons n ns ih =>
    refine ih (fun m hm => ho m (by simp [hm])) _ (fun y hy => ?_)
    rcases List.mem_append.1 hy with hy | hy
    · exact ha y hy
    · rw [List.mem_singleton.1 hy]
      exact szN_range hc (fun y hy => by have := ha y hy; omega) (ho n (by simp))
def s0 (of : Int → Int) (n : Nd) : Int := if n.kind = 1 then of n.server else 1
structure InO (N : Nat) (c : Int) (of : Int → Int) (ns : List Nd) (i : Nat) (A : List Int) : Prop where
  len : A.length = N
  tk : A.take i = szA c of [] (ns.take i)
structure InI (N : Nat) (c : Int) (of : Int → Int) (ns : List Nd) (i q : Nat) (A : List Int) : Prop where
  len : A.length = N
  tk : A.take i = szA c of [] (ns.take i)
  at' : A.getD i default = foldS c (szA c of [] (ns.take i)) (s0 of (ns.getD i default)) ((ns.getD i default).k.take q)
theorem take_set_self {l : List Int} {i : Nat} {v : Int} : (l.set i v).take i = l.take i := by
  rw [List.take_set, List.set_eq_of_length_le (by simp; omega)]
theorem getD_set_self {l : List Int} {i : Nat} {v d : Int} (h : i < l.length) : (l.set i v).getD i d = v := by simp [List.getD_eq_getElem?_getD, h]
variable {N : Nat} {c : Int} {of : Int → Int} {ns : List Nd} {i q : Nat} {A : List Int}
theorem InI.tk_at (h : InI N c of ns i q A) {k : Nat} (hk : k < i) : A.getD k default = (szA c of [] (ns.take i)).getD k 0 := by
  rw [← h.tk]; simp [List.getD_eq_getElem?_getD, List.getElem?_take, hk]
theorem InI.step (h : InI N c of ns i q A) (hi : i < N) (hq : q < (ns.getD i default).k.length) (hk : ((ns.getD i default).k.getD q default).toNat < i) {v : Int} (hv : v = min c (A.getD i default + A.getD ((ns.getD i default).k.getD q default).toNat default)) : InI N c of ns i (q + 1) (A.set i v) := by
  refine ⟨by simp [h.len], by rw [take_set_self]; exact h.tk, ?_⟩
  rw [getD_set_self (by rw [h.len]; exact hi), hv, foldS_s hq, h.at', h.tk_at hk]
theorem InI.done (h : InI N c of ns i q A) (hi : i < ns.length) (hN : i < N) (hq : q = (ns.getD i default).k.length) : InO N c of ns (i + 1) A := by
  refine ⟨h.len, ?_⟩
  rw [szA_s hi, ← h.tk]
  have e : A.take (i + 1) = A.take i ++ [A.getD i default] := take_snoc (by rw [h.len]; exact hN)
  rw [e, h.at', hq, List.take_length, h.tk]; rfl
theorem InI.rng (h : InI N c of ns i q A) (hc : 1 ≤ c) (ho : ∀ n ∈ ns, n.kind = 1 → 1 ≤ of n.server ∧ of n.server ≤ c) (hi : i < ns.length) : (1 ≤ A.getD i default ∧ A.getD i default ≤ c) ∧ ∀ k, k < i → 1 ≤ A.getD k default ∧ A.getD k default ≤ c := by
  have hr := szA_range (c := c) (of := of) hc (ns.take i) (fun n hn => ho n (List.mem_of_mem_take hn)) [] (by simp)
  refine ⟨?_, fun k hk => ?_⟩
  · rw [h.at']
    have hm : ns.getD i default ∈ ns := by rw [List.getD_eq_getElem?_getD, List.getElem?_eq_getElem hi, Option.getD_some]; exact List.getElem_mem hi
    have h0 : 1 ≤ s0 of (ns.getD i default) ∧ s0 of (ns.getD i default) ≤ c := by
      unfold s0; split
      · rename_i h1; exact ho _ hm h1
      · omega
    have := foldS_range hc (fun y hy => by have := hr y hy; omega) (s := s0 of (ns.getD i default)) (by omega) ((ns.getD i default).k.take q)
    omega
  · rw [h.tk_at hk]
    have hl : (szA c of [] (ns.take i)).length = i := by rw [szA_len]; simp; omega
    rw [List.getD_eq_getElem?_getD, List.getElem?_eq_getElem (by omega), Option.getD_some]
    exact hr _ (List.getElem_mem _)
theorem InO.at' (h : InO N c of ns i A) {k : Nat} (hk : k < i) : A.getD k default = (szA c of [] (ns.take i)).getD k 0 := by
  rw [← h.tk]; simp [List.getD_eq_getElem?_getD, List.getElem?_take, hk]
end Go.Bp
/- Bp7. -/
set_option linter.unusedVariables false
set_option linter.unusedSectionVars false
set_option linter.unusedSimpArgs false
set_option maxRecDepth 20000
namespace Go.Bp
variable {mk : Nd → List Int → Nd} {sub : List Nd → Nd → Option (List Nd)} {nodes : List Nd} {c : Int} {of : Int → Int} {f i : Nat} {out : List Nd}
def Tab (mk : Nd → List Int → Nd) (sub : List Nd → Nd → Option (List Nd)) (nodes : List Nd) (c : Int) (S : List Int) (i : Nat) : Prop :=
  ∀ j, j < i → ∀ f, j < f → ∀ out : List Nd, 1 ≤ ((growG mk sub nodes f j out).length : Int) - out.length ∧ S.getD j 0 = min c (((growG mk sub nodes f j out).length : Int) - out.length)
theorem gS_tab {S : List Int} (hc : 1 ≤ c) (hT : Tab mk sub nodes c S i) (hf : i ≤ f) (ks : List Int) (hk : ∀ k ∈ ks, 0 ≤ k ∧ k < i) (s : List Nd × List Int) (v : Int) (d : Int) (hd : 1 ≤ d) (hv : v = min c d) :
    foldS c S v ks = min c (d + (((gS (growG mk sub nodes f) ks s).1.length : Int) - s.1.length)) := by
  induction ks generalizing s v d with
  | nil => simp only [foldS, gS]; omega
  | cons k ks ih =>
    have h := hk k (by simp)
    obtain ⟨h1, h2⟩ := hT k.toNat (by omega) f (by omega) s.1
    simp only [foldS, gS]
    rw [ih (fun y hy => hk y (by simp [hy])) (growG mk sub nodes f k.toNat s.1, s.2 ++ [((growG mk sub nodes f k.toNat s.1).length : Int) - 1]) _ (d + (((growG mk sub nodes f k.toNat s.1).length : Int) - s.1.length)) (by omega) (by rw [h2, hv]; omega)]
    dsimp only
    congr 1; omega
structure SubOk (sub : List Nd → Nd → Option (List Nd)) (of : Int → Int) (c : Int) (n : Nd) : Prop where
  some' : ∀ out o, sub out n = some o → n.kind = 1 ∧ 1 ≤ ((o.length : Int) - out.length) ∧ of n.server = min c ((o.length : Int) - out.length)
  none' : ∀ out, sub out n = none → n.kind = 1 → of n.server = 1
theorem Tab.step {S : List Int} (hc : 1 ≤ c) (hT : Tab mk sub nodes c S i) (hs : SubOk sub of c (nodes.getD i default)) (hk : ∀ k ∈ (nodes.getD i default).k, 0 ≤ k ∧ k < i) (hleaf : (nodes.getD i default).kind = 1 → (nodes.getD i default).k = [])
    (hS : S.length = i) : Tab mk sub nodes c (S ++ [szN c of S (nodes.getD i default)]) (i + 1) := by
  intro j hj f hf out
  rcases Nat.lt_or_eq_of_le (Nat.le_of_lt_succ hj) with h | h
  · have := hT j h f hf out
    rw [List.getD_eq_getElem?_getD, List.getElem?_append_left (by omega), ← List.getD_eq_getElem?_getD]; exact this
  · subst h
    rw [List.getD_eq_getElem?_getD, List.getElem?_append_right (by omega), hS, Nat.sub_self]
    show _ ∧ szN c of S (nodes.getD j default) = _
    obtain ⟨f, rfl⟩ : ∃ p, f = p + 1 := ⟨f - 1, by omega⟩
    cases hsu : sub out (nodes.getD j default) with
    | some o =>
      rw [growG_sub _ _ _ _ _ _ _ hsu]
      obtain ⟨h1, h2, h3⟩ := hs.some' _ _ hsu
      refine ⟨h2, ?_⟩
      unfold szN
      rw [hleaf h1, if_pos h1]; exact h3
    | none =>
      rw [growG_s _ _ _ _ _ _ hsu, List.length_append]
      have e0 : (if (nodes.getD j default).kind = 1 then of (nodes.getD j default).server else 1) = 1 := by
        split
        · rename_i h1; exact hs.none' _ hsu h1
        · rfl
      have h1 := gS_tab (mk := mk) (sub := sub) (nodes := nodes) (f := f) hc hT (by omega) (nodes.getD j default).k hk (out, []) 1 1 (by omega) (by omega)
      unfold szN
      rw [e0, h1]
      dsimp only
      have hle : out.length ≤ (gS (growG mk sub nodes f) (nodes.getD j default).k (out, [])).1.length := by
        have main : ∀ (ks : List Int) (s : List Nd × List Int), (∀ k ∈ ks, 0 ≤ k ∧ k < j) → s.1.length ≤ (gS (growG mk sub nodes f) ks s).1.length := by
          intro ks
          induction ks with
          | nil => intro s _; exact Nat.le_refl _
          | cons k ks ih =>
            intro s hks
            have hk0 := hks k (by simp)
            have h3 := (hT k.toNat (by omega) f (by omega) s.1).1
            have h4 := ih (growG mk sub nodes f k.toNat s.1, s.2 ++ [((growG mk sub nodes f k.toNat s.1).length : Int) - 1]) (fun y hy => hks y (by simp [hy]))
            simp only [gS]; dsimp only at h4; omega
        exact main _ (out, []) hk
      simp only [List.length_singleton]; omega
theorem Tab.all (hc : 1 ≤ c) (hs : ∀ j, j < nodes.length → SubOk sub of c (nodes.getD j default)) (hk : ∀ j, j < nodes.length → ∀ k ∈ (nodes.getD j default).k, 0 ≤ k ∧ k < j)
    (hleaf : ∀ j, j < nodes.length → (nodes.getD j default).kind = 1 → (nodes.getD j default).k = []) : ∀ i, i ≤ nodes.length → Tab mk sub nodes c (szA c of [] (nodes.take i)) i := by
  intro i
  induction i with
  | zero => intro _ j hj; omega
  | succ i ih =>
    intro hi
    rw [szA_s (by omega)]
    exact (ih (by omega)).step hc (hs i (by omega)) (hk i (by omega)) (hleaf i (by omega)) (by rw [szA_len, List.length_take]; simp; omega)
theorem XOk.ks {x : Ex} (h : XOk x) : ∀ j, j < x.nodes.length → ∀ k ∈ (x.nodes.getD j default).k, 0 ≤ k ∧ k < j := fun j hj k hk => (h.node j hj).ks k hk
theorem XOk.leaf {x : Ex} (h : XOk x) : ∀ j, j < x.nodes.length → (x.nodes.getD j default).kind = 1 → (x.nodes.getD j default).k = [] := fun j hj hk => ((h.node j hj).leaf hk).2.2
end Go.Bp
/- Bp8. -/
set_option linter.unusedVariables false
set_option linter.unusedSectionVars false
set_option linter.unusedSimpArgs false
set_option maxRecDepth 20000
namespace Go.Bp
variable {ws : List Nat} {i j m b n : Nat}
def off (ws : List Nat) (j : Nat) : Nat := (ws.take j).sum
end Go.Bp
/- Bp9. -/
set_option linter.unusedVariables false
set_option linter.unusedSectionVars false
set_option linter.unusedSimpArgs false
set_option maxRecDepth 20000
namespace Go.Bp
variable {x : Ex} {l : List Ex} {t : Nd} {i j n : Nat} {a b : Int}
def mv (b : Int) (n : Nd) : Nd := if n.kind = 1 then { n with server := n.server + b } else n
def Sim (a b : List Nd) : Prop := a.map core = b.map core
theorem Sim.len {a b : List Nd} (h : Sim a b) : a.length = b.length := by have := congrArg List.length h; simpa using this
end Go.Bp
/- Bp10. -/
set_option linter.unusedVariables false
set_option linter.unusedSectionVars false
set_option linter.unusedSimpArgs false
set_option maxRecDepth 20000
namespace Go.Bp
variable {h : Int → Bool} {x : Ex} {t : Nd} {i j q n N : Nat} {A : List Bool} {s : Nat}
def KS (x : Ex) : Prop := ∀ j, j < x.nodes.length → (x.nodes.getD j default).k.length ≤ 1000
structure TabO (h : Int → Bool) (x : Ex) (i : Nat) (A : List Bool) : Prop where
  len : A.length = x.nodes.length
  tk : A.take i = runA h [] (x.nodes.take i)
theorem TabO.zero : TabO h x 0 (List.replicate x.nodes.length false) := ⟨by simp, by simp [runA]⟩
theorem TabO.step (hA : TabO h x i A) (hi : i < x.nodes.length) {v : Bool} (hv : v = evN h (A.take i) (x.nodes.getD i default)) : TabO h x (i + 1) (A.set i v) := by
  refine ⟨by simp [hA.len], ?_⟩
  have e3 : x.nodes.take (i + 1) = x.nodes.take i ++ [x.nodes.getD i default] := by rw [List.take_add_one]; simp [List.getD_eq_getElem?_getD, hi]
  have e4 : (A.set i v).take (i + 1) = A.take i ++ [v] := by
    rw [List.take_add_one, List.take_set, List.set_eq_of_length_le (by simp; omega)]
    simp [hA.len, hi]
  rw [e3, runA_app, ← hA.tk, e4, hv]; rfl
theorem TabO.root (hA : TabO h x x.nodes.length A) : A.getD x.root.toNat default = hold h x := by
  have := hA.tk
  rw [List.take_length, List.take_of_length_le (by rw [hA.len]; exact Nat.le_refl _)] at this
  unfold hold; rw [← this]; rfl
def gotQ (t : Nd) (A : List Bool) (q : Nat) : Int := gotA t A 0 (t.k.take q)
theorem gotA_snoc (k : Nat) (ks : List Int) (y : Int) : gotA t A k (ks ++ [y]) = gotA t A k ks + (if A.getD y.toNat false then wt t (k + ks.length) else 0) := by
  induction ks generalizing k with
  | nil => simp [gotA]
  | cons a ks ih => simp only [List.cons_append, gotA, ih, List.length_cons, show k + 1 + ks.length = k + (ks.length + 1) by omega]; omega
theorem gotQ_0 : gotQ t A 0 = 0 := rfl
theorem gotQ_e (hq : q < t.k.length) : gotQ t A (q + 1) = gotQ t A q + (if A.getD (t.k.getD q default).toNat false then wt t q else 0) := by
  unfold gotQ
  have e : t.k.take (q + 1) = t.k.take q ++ [t.k.getD q default] := by rw [List.take_add_one]; simp [List.getD_eq_getElem?_getD, hq]
  rw [e, gotA_snoc]
  have : 0 + (t.k.take q).length = q := by simp; omega
  rw [this]
theorem gotQ_t (hq : q < t.k.length) (hb : A.getD (t.k.getD q default).toNat default = true) : gotQ t A (q + 1) = gotQ t A q + wt t q := by
  rw [gotQ_e hq, if_pos (show A.getD (t.k.getD q default).toNat false = true from hb)]
theorem gotQ_f (hq : q < t.k.length) (hb : ¬ A.getD (t.k.getD q default).toNat default = true) : gotQ t A (q + 1) = gotQ t A q := by
  rw [gotQ_e hq, if_neg (show ¬ A.getD (t.k.getD q default).toNat false = true from hb), Int.add_zero]
theorem wt_rng (hn : NOk t i) (hq : q < t.k.length) : 1 ≤ wt t q ∧ wt t q ≤ 1000 := by
  unfold wt
  split
  · omega
  · rename_i hw
    have h1 := hn.wl (fun e => hw (by rw [e]; rfl))
    have : t.w.getD q 0 ∈ t.w := by rw [List.getD_eq_getElem?_getD, List.getElem?_eq_getElem (by omega), Option.getD_some]; exact List.getElem_mem _
    exact hn.ws _ this
theorem gotQ_rng (hn : NOk t i) (hq : q ≤ t.k.length) : 0 ≤ gotQ t A q ∧ gotQ t A q ≤ 1000 * q := by
  induction q with
  | zero => simp [gotQ_0]
  | succ q ih =>
    have := ih (by omega)
    have := wt_rng hn (q := q) (by omega)
    rw [gotQ_e (by omega)]; split <;> omega
theorem gotA_take (k : Nat) (ks : List Int) (hk : ∀ y ∈ ks, 0 ≤ y ∧ y < i) : gotA t (A.take i) k ks = gotA t A k ks := by
  induction ks generalizing k with
  | nil => rfl
  | cons a ks ih =>
    have ha := hk a (by simp)
    have e : (A.take i).getD a.toNat false = A.getD a.toNat false := by simp [List.getD_eq_getElem?_getD, List.getElem?_take, show a.toNat < i by omega]
    simp only [gotA, e, ih _ (fun y hy => hk y (by simp [hy]))]
theorem ev_1 (hn : NOk t i) (hk : t.kind = 1) : evN h (A.take i) t = h t.server := by simp [evN, hk]
theorem ev_2 (hn : NOk t i) (hk : ¬ t.kind = 1) : evN h (A.take i) t = decide (t.need ≤ gotQ t A t.k.length) := by
  have h2 : t.kind = 2 := by rcases hn.kind with h | h; exact absurd h hk; exact h
  unfold evN gotQ
  rw [List.take_length, gotA_take 0 t.k hn.ks]; simp [h2]
def bitI (s : Nat) (i : Int) : Bool := s.testBit i.toNat
theorem bitI_n : bitI s (i : Nat) = s.testBit i := by simp [bitI]
def mem (s : Nat) : Nat → List Int
  | 0 => []
  | j + 1 => if s.testBit j then mem s j ++ [(j : Int)] else mem s j
def memL (s j : Nat) : Nat := (mem s j).length
theorem mem_t (hb : s.testBit j = true) : mem s (j + 1) = mem s j ++ [(j : Int)] := by rw [mem, if_pos hb]
theorem mem_f (hb : s.testBit j = false) : mem s (j + 1) = mem s j := by rw [mem, if_neg (by rw [hb]; simp)]
theorem memL_0 : memL s 0 = 0 := rfl
theorem memL_t (hb : s.testBit j = true) : memL s (j + 1) = memL s j + 1 := by unfold memL; rw [mem_t hb]; simp
theorem memL_f (hb : s.testBit j = false) : memL s (j + 1) = memL s j := by unfold memL; rw [mem_f hb]
theorem mem_len : (mem s j).length = memL s j := rfl
theorem mem_z (h0 : memL s j = 0) : mem s j = [] := List.eq_nil_of_length_eq_zero h0
theorem memL_le : memL s j ≤ j := by
  induction j with
  | zero => exact Nat.le_refl _
  | succ j ih =>
    cases hb : s.testBit j with
    | true => rw [memL_t hb]; omega
    | false => rw [memL_f hb]; omega
theorem tk_mem : (mem s j).take (memL s j) = mem s j := List.take_of_length_le (Nat.le_refl _)
end Go.Bp
/- Bp11. -/
set_option linter.unusedVariables false
set_option linter.unusedSectionVars false
set_option linter.unusedSimpArgs false
set_option maxRecDepth 20000
namespace Go.Bp
variable {x : Ex} {kids : List Ex} {need : Int} {w : List Int} {wz : Bool} {acc L : List Nd} {i j n c : Nat}
def AllOk (L : List Nd) : Prop := ∀ i, i < L.length → NOk (L.getD i default) i
theorem NOk.sh' {t : Nd} (h : NOk t j) : NOk (sh n t) (n + j) := by
  refine ⟨h.kind, h.srv, fun hk => ?_, h.zero, h.need, h.ws, fun hw => ?_, fun k hk => ?_⟩
  · have := h.leaf hk
    refine ⟨this.1, this.2.1, ?_⟩
    show t.k.map _ = []
    rw [this.2.2]; rfl
  · have := h.wl hw
    show t.w.length = (t.k.map _).length
    rw [this, List.length_map]
  · obtain ⟨u, hu, rfl⟩ := List.mem_map.1 hk
    have := h.ks u hu
    omega
theorem AllOk.app (h1 : AllOk acc) (h2 : AllOk L) : AllOk (acc ++ L.map (sh acc.length)) := by
  intro i hi
  rw [List.length_append, List.length_map] at hi
  rcases Nat.lt_or_ge i acc.length with h | h
  · rw [List.getD_eq_getElem?_getD, List.getElem?_append_left h, ← List.getD_eq_getElem?_getD]; exact h1 i h
  · have hj : i - acc.length < L.length := by omega
    have := (h2 (i - acc.length) hj).sh' (n := acc.length)
    rw [show acc.length + (i - acc.length) = i by omega] at this
    rw [List.getD_eq_getElem?_getD, List.getElem?_append_right h]
    rw [List.getD_eq_getElem?_getD, List.getElem?_eq_getElem hj, Option.getD_some] at this
    simp [hj]; exact this
structure VOk (x : Ex) : Prop where
  good : Good x
  all : AllOk x.nodes
theorem VOk.ok (h : VOk x) (hl : x.nodes.length ≤ 60) : XOk x := by
  have hp : 0 < x.nodes.length := List.length_pos_iff.2 h.good.ne
  have := h.good.root
  exact ⟨hp, hl, h.all, by omega⟩
theorem XF.ks {b : Nat} (h : XF b x) : KS x := fun j hj => by
  have : x.nodes.getD j default ∈ x.nodes := by rw [List.getD_eq_getElem?_getD, List.getElem?_eq_getElem hj, Option.getD_some]; exact List.getElem_mem hj
  exact (h.nd _ this).kl
end Go.Bp
