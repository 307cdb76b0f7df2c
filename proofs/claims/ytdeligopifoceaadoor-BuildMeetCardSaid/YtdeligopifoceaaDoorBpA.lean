/- BpA: Bp1 Bp2 Bp3 Bp4 Bp5 Bp6 Bp7 Bp8 Bp9 Bp10 Bp11, merged. No condition. -/
/- Bp1. -/
set_option linter.unusedVariables false
set_option linter.unusedSectionVars false
set_option linter.unusedSimpArgs false
namespace Go.Bp

/-- A node: the flags say whether a list is nil. -/
structure Nd where
  kind : Int
  server : Int
  need : Int
  wz : Bool
  w : List Int
  kz : Bool
  k : List Int
deriving DecidableEq
instance : Inhabited Nd := ⟨⟨0, 0, 0, true, [], true, []⟩⟩
structure Ex where
  nz : Bool
  nodes : List Nd
  root : Int
deriving DecidableEq
instance : Inhabited Ex := ⟨⟨true, [], 0⟩⟩

def srv (i : Int) : Ex := ⟨false, [⟨1, i, 0, true, [], true, []⟩], 0⟩
/-- A node whose kids stand further behind. -/
def sh (b : Int) (n : Nd) : Nd := { n with k := n.k.map (· + b) }
/-- The nodes of some kids, one kid behind the other. -/
def nodesA (acc : List Nd) : List Ex → List Nd
  | [] => acc
  | x :: xs => nodesA (acc ++ x.nodes.map (sh acc.length)) xs
/-- The places of the kids' roots. -/
def rootsA (b : Nat) : List Ex → List Int
  | [] => []
  | x :: xs => (b + x.root) :: rootsA (b + x.nodes.length) xs
def topN (need : Int) (wz : Bool) (w : List Int) (ks : List Int) : Nd := ⟨2, 0, need, wz, w, ks.isEmpty, ks⟩
def thr (need : Int) (kids : List Ex) (wz : Bool) (w : List Int) : Ex :=
  ⟨false, nodesA [] kids ++ [topN need wz w (rootsA 0 kids)], (nodesA [] kids).length⟩

theorem nodesA_len (acc : List Nd) (xs : List Ex) : (nodesA acc xs).length = acc.length + (xs.map fun x => x.nodes.length).sum := by
  induction xs generalizing acc with
  | nil => simp [nodesA]
  | cons x xs ih => rw [nodesA, ih]; simp; omega
theorem nodesA_snoc (acc : List Nd) (xs : List Ex) (x : Ex) : nodesA acc (xs ++ [x]) = nodesA acc xs ++ x.nodes.map (sh (nodesA acc xs).length) := by
  induction xs generalizing acc with
  | nil => simp [nodesA]
  | cons y xs ih => simp only [List.cons_append, nodesA]; rw [ih]
theorem rootsA_len (b : Nat) (xs : List Ex) : (rootsA b xs).length = xs.length := by
  induction xs generalizing b with
  | nil => rfl
  | cons x xs ih => simp [rootsA, ih]
theorem rootsA_snoc (b : Nat) (xs : List Ex) (x : Ex) : rootsA b (xs ++ [x]) = rootsA b xs ++ [((b + (xs.map fun x => x.nodes.length).sum : Nat) : Int) + x.root] := by
  induction xs generalizing b with
  | nil => simp [rootsA]
  | cons y xs ih => simp only [List.cons_append, rootsA, ih]; simp; omega

/-! ### what a set satisfies -/
def wt (n : Nd) (k : Nat) : Int := if n.w.length = 0 then 1 else n.w.getD k 0
def gotA (n : Nd) (l : List Bool) (k : Nat) : List Int → Int
  | [] => 0
  | x :: xs => (if l.getD x.toNat false then wt n k else 0) + gotA n l (k + 1) xs
def evN (h : Int → Bool) (l : List Bool) (n : Nd) : Bool := (decide (n.kind = 1) && h n.server) || (decide (n.kind = 2) && decide (n.need ≤ gotA n l 0 n.k))
def runA (h : Int → Bool) (acc : List Bool) : List Nd → List Bool
  | [] => acc
  | n :: ns => runA h (acc ++ [evN h acc n]) ns
def hold (h : Int → Bool) (x : Ex) : Bool := (runA h [] x.nodes).getD x.root.toNat false

theorem runA_len (h : Int → Bool) (acc : List Bool) (ns : List Nd) : (runA h acc ns).length = acc.length + ns.length := by
  induction ns generalizing acc with
  | nil => simp [runA]
  | cons n ns ih => rw [runA, ih]; simp; omega
theorem runA_app (h : Int → Bool) (acc : List Bool) (ns ms : List Nd) : runA h acc (ns ++ ms) = runA h (runA h acc ns) ms := by
  induction ns generalizing acc with
  | nil => rfl
  | cons n ns ih => simp only [List.cons_append, runA, ih]
theorem runA_pre (h : Int → Bool) (acc : List Bool) (ns : List Nd) : ∃ l, runA h acc ns = acc ++ l := by
  induction ns generalizing acc with
  | nil => exact ⟨[], by simp [runA]⟩
  | cons n ns ih =>
    obtain ⟨l, hl⟩ := ih (acc ++ [evN h acc n])
    exact ⟨evN h acc n :: l, by rw [runA, hl]; simp⟩
theorem gotA_sh (n : Nd) (P l : List Bool) (k : Nat) (ks : List Int) (hk : ∀ x ∈ ks, 0 ≤ x) (m : Nd) (hm : m.w = n.w) : gotA m (P ++ l) k (ks.map (· + (P.length : Int))) = gotA n l k ks := by
  induction ks generalizing k with
  | nil => rfl
  | cons x xs ih =>
    have hx := hk x (by simp)
    simp only [List.map_cons, gotA]
    rw [ih (k + 1) (fun y hy => hk y (by simp [hy]))]
    have e1 : (x + (P.length : Int)).toNat = P.length + x.toNat := by omega
    have e2 : (P ++ l).getD (P.length + x.toNat) false = l.getD x.toNat false := by
      simp [List.getD_eq_getElem?_getD, List.getElem?_append_right]
    have e3 : wt m k = wt n k := by unfold wt; rw [hm]
    rw [e1, e2, e3]
theorem runA_sh (h : Int → Bool) (P acc : List Bool) (ns : List Nd) (hk : ∀ n ∈ ns, ∀ x ∈ n.k, 0 ≤ x) : runA h (P ++ acc) (ns.map (sh P.length)) = P ++ runA h acc ns := by
  induction ns generalizing acc with
  | nil => rfl
  | cons n ns ih =>
    simp only [List.map_cons, runA]
    have e : evN h (P ++ acc) (sh P.length n) = evN h acc n := by
      unfold evN
      rw [show (sh P.length n).k = n.k.map (· + (P.length : Int)) from rfl, gotA_sh n P acc 0 n.k (hk n (by simp)) (sh P.length n) rfl]
      rfl
    rw [e, List.append_assoc, ih (acc ++ [evN h acc n]) (fun m hm => hk m (by simp [hm]))]
/-- Expressions whose root is the last node, and whose kids have indices that are not negative. -/
structure Good (x : Ex) : Prop where
  ne : x.nodes ≠ []
  root : x.root = (x.nodes.length : Int) - 1
  kids : ∀ n ∈ x.nodes, ∀ y ∈ n.k, 0 ≤ y
theorem good_srv (i : Int) : Good (srv i) := ⟨by simp [srv], by simp [srv], by simp [srv]⟩
theorem nodesA_kids (acc : List Nd) (xs : List Ex) (ha : ∀ n ∈ acc, ∀ y ∈ n.k, 0 ≤ y) (hx : ∀ x ∈ xs, ∀ n ∈ x.nodes, ∀ y ∈ n.k, 0 ≤ y) : ∀ n ∈ nodesA acc xs, ∀ y ∈ n.k, 0 ≤ y := by
  induction xs generalizing acc with
  | nil => exact ha
  | cons x xs ih =>
    refine ih _ (fun n hn y hy => ?_) (fun z hz => hx z (by simp [hz]))
    rcases List.mem_append.1 hn with hn | hn
    · exact ha n hn y hy
    · obtain ⟨m, hm, rfl⟩ := List.mem_map.1 hn
      obtain ⟨u, hu, rfl⟩ := List.mem_map.1 hy
      have := hx x (by simp) m hm u hu
      show 0 ≤ u + _; omega
theorem rootsA_pos (b : Nat) (xs : List Ex) (hx : ∀ x ∈ xs, 0 ≤ x.root) : ∀ y ∈ rootsA b xs, 0 ≤ y := by
  induction xs generalizing b with
  | nil => simp [rootsA]
  | cons x xs ih =>
    intro y hy
    rcases List.mem_cons.1 hy with rfl | hy
    · have := hx x (by simp); omega
    · exact ih _ (fun z hz => hx z (by simp [hz])) y hy
theorem good_root {x : Ex} (h : Good x) : 0 ≤ x.root := by
  have := h.root
  have : 0 < x.nodes.length := List.length_pos_iff.2 h.ne
  omega
theorem good_thr {need : Int} {kids : List Ex} {wz : Bool} {w : List Int} (h : ∀ x ∈ kids, Good x) : Good (thr need kids wz w) := by
  refine ⟨by simp [thr], by simp [thr], fun n hn y hy => ?_⟩
  rcases List.mem_append.1 hn with hn | hn
  · exact nodesA_kids [] kids (by simp) (fun x hx => (h x hx).kids) n hn y hy
  · rw [List.mem_singleton.1 hn] at hy
    exact rootsA_pos 0 kids (fun x hx => good_root (h x hx)) y hy
theorem runA_kids (h : Int → Bool) (accN : List Nd) (xs : List Ex) : ∃ l, runA h [] (nodesA accN xs) = runA h [] accN ++ l := by
  induction xs generalizing accN with
  | nil => exact ⟨[], by simp [nodesA]⟩
  | cons x xs ih =>
    obtain ⟨l, hl⟩ := ih (accN ++ x.nodes.map (sh accN.length))
    rw [nodesA, hl, runA_app]
    obtain ⟨l2, hl2⟩ := runA_pre h (runA h [] accN) (x.nodes.map (sh accN.length))
    exact ⟨l2 ++ l, by rw [hl2]; simp⟩
theorem rootsBits (h : Int → Bool) (accN : List Nd) (xs : List Ex) (hx : ∀ x ∈ xs, Good x) (ha : ∀ n ∈ accN, ∀ y ∈ n.k, 0 ≤ y) :
    (rootsA accN.length xs).map (fun y => (runA h [] (nodesA accN xs)).getD y.toNat false) = xs.map (hold h) := by
  induction xs generalizing accN with
  | nil => rfl
  | cons x xs ih =>
    have g := hx x (by simp)
    have hlen : accN.length + x.nodes.length = (accN ++ x.nodes.map (sh accN.length)).length := by simp
    have hacc : ∀ n ∈ accN ++ x.nodes.map (sh accN.length), ∀ y ∈ n.k, 0 ≤ y := nodesA_kids accN [x] ha (by simpa using g.kids)
    simp only [rootsA, List.map_cons, nodesA]
    rw [hlen, ih _ (fun z hz => hx z (by simp [hz])) hacc]
    congr 1
    obtain ⟨l, hl⟩ := runA_kids h (accN ++ x.nodes.map (sh accN.length)) xs
    rw [hl, runA_app]
    have e : (runA h [] accN).length = accN.length := by rw [runA_len]; simp
    have e2 := runA_sh h (runA h [] accN) [] x.nodes g.kids
    rw [List.append_nil, e] at e2
    rw [e2]
    have hr := good_root g
    have hpos : 0 < x.nodes.length := List.length_pos_iff.2 g.ne
    have hroot := g.root
    have e3 : ((accN.length : Int) + x.root).toNat = accN.length + x.root.toNat := by omega
    have e4 : x.root.toNat < (runA h [] x.nodes).length := by rw [runA_len]; simp; omega
    unfold hold
    rw [e3, List.append_assoc, List.getD_eq_getElem?_getD, List.getElem?_append_right (by rw [e]; omega), e, show accN.length + x.root.toNat - accN.length = x.root.toNat by omega, List.getElem?_append_left e4, List.getD_eq_getElem?_getD]
def cnt (l : List Bool) : Nat := (l.filter id).length
theorem gotA_one (n : Nd) (hw : n.w = []) (l : List Bool) (k : Nat) (ks : List Int) : gotA n l k ks = (cnt (ks.map fun y => l.getD y.toNat false) : Nat) := by
  induction ks generalizing k with
  | nil => rfl
  | cons x xs ih =>
    simp only [gotA, ih, List.map_cons]
    have : wt n k = 1 := by unfold wt; rw [hw]; rfl
    rw [this]
    unfold cnt
    cases l.getD x.toNat false
    · rw [if_neg (by simp), List.filter_cons_of_neg (by simp)]; omega
    · rw [if_pos rfl, List.filter_cons_of_pos rfl, List.length_cons]; omega
/-- A threshold without weights: as many of its kids as needed are satisfied. -/
theorem hold_thr (h : Int → Bool) {need : Int} {kids : List Ex} {wz : Bool} (hx : ∀ x ∈ kids, Good x) : hold h (thr need kids wz []) = decide (need ≤ (cnt (kids.map (hold h)) : Nat)) := by
  have e := rootsBits h [] kids hx (by simp)
  have hl : (runA h [] (nodesA [] kids)).length = (nodesA [] kids).length := by rw [runA_len]; simp
  unfold hold
  show (runA h [] (nodesA [] kids ++ [topN need wz [] (rootsA 0 kids)])).getD ((nodesA [] kids).length : Int).toNat false = _
  rw [runA_app, runA, runA, Int.toNat_natCast, List.getD_eq_getElem?_getD, List.getElem?_append_right (by omega), hl, Nat.sub_self]
  show evN h _ (topN need wz [] (rootsA 0 kids)) = _
  unfold evN
  rw [gotA_one _ rfl]
  show ((decide ((2 : Int) = 1) && _) || (decide ((2 : Int) = 2) && decide (need ≤ _))) = _
  rw [show (topN need wz [] (rootsA 0 kids)).k = rootsA 0 kids from rfl]
  have e' := e
  simp only [List.length_nil] at e'
  rw [e']
  unfold hold
  simp
theorem hold_srv (h : Int → Bool) (i : Int) : hold h (srv i) = h i := by
  simp [hold, srv, runA, evN]
end Go.Bp
/- Bp2. -/
set_option linter.unusedVariables false
set_option linter.unusedSectionVars false
set_option linter.unusedSimpArgs false
namespace Go.Bp

def upTo (a : Int) (n : Nat) : List Int := (List.range n).map fun (i : Nat) => a + i
def servs (l : List Int) : List Ex := l.map srv
def allX (kids : List Ex) : Ex := thr kids.length kids true []
def oneX (kids : List Ex) : Ex := thr 1 kids true []
def servsN (l : List Int) (j : Nat) : List Ex := servs (l.take j)
theorem servsN_z {l : List Int} {j : Nat} (h : j = 0) : servsN l j = [] := by subst h; rfl
theorem servsN_s {l : List Int} {j : Nat} (h : j < l.length) : servsN l (j + 1) = servsN l j ++ [srv (l.getD j default)] := by
  unfold servsN servs
  rw [List.take_add_one, List.map_append]; simp [List.getD_eq_getElem?_getD, h]
theorem servsN_len {l : List Int} {j : Nat} (h : j ≤ l.length) : (servsN l j).length = j := by simp [servsN, servs]; omega
theorem servsN_all {l : List Int} {j : Nat} (h : j = l.length) : servsN l j = servs l := by subst h; simp [servsN]
theorem servs_len {l : List Int} : (servs l).length = l.length := by simp [servs]
theorem upTo_z {a : Int} {n : Nat} (h : n = 0) : upTo a n = [] := by subst h; rfl
theorem upTo_s {a : Int} {n : Nat} : upTo a (n + 1) = upTo a n ++ [a + n] := by simp [upTo, List.range_succ]
theorem upTo_ln {a : Int} {n : Nat} : (upTo a n).length = n := by simp [upTo]
theorem good_servs (l : List Int) : ∀ x ∈ servs l, Good x := by
  intro x hx; obtain ⟨i, _, rfl⟩ := List.mem_map.1 hx; exact good_srv i
theorem hold_servs (h : Int → Bool) (l : List Int) : (servs l).map (hold h) = l.map h := by
  unfold servs; rw [List.map_map]; exact List.map_congr_left (fun i _ => hold_srv h i)
theorem cnt_le (l : List Bool) : cnt l ≤ l.length := List.length_filter_le _ _
theorem cnt_all (l : List Bool) : decide (((l.length : Nat) : Int) ≤ (cnt l : Nat)) = l.all id := by
  induction l with
  | nil => rfl
  | cons b l ih =>
    have := cnt_le l
    cases b
    · have e : cnt (false :: l) = cnt l := by simp [cnt]
      rw [e]; simp; omega
    · have e : cnt (true :: l) = cnt l + 1 := by simp [cnt]
      rw [e, List.all_cons]; simp only [id, Bool.true_and]; rw [← ih, List.length_cons]
      apply decide_eq_decide.2; omega
theorem cnt_any (l : List Bool) : decide ((1 : Int) ≤ (cnt l : Nat)) = l.any id := by
  induction l with
  | nil => rfl
  | cons b l ih =>
    cases b
    · have e : cnt (false :: l) = cnt l := by simp [cnt]
      rw [e, ih]; simp
    · have e : cnt (true :: l) = cnt l + 1 := by simp [cnt]
      rw [e]; simp; omega
theorem hold_all (h : Int → Bool) {kids : List Ex} (hx : ∀ x ∈ kids, Good x) : hold h (allX kids) = (kids.map (hold h)).all id := by
  unfold allX; rw [hold_thr h hx, ← cnt_all, List.length_map]
theorem hold_one (h : Int → Bool) {kids : List Ex} (hx : ∀ x ∈ kids, Good x) : hold h (oneX kids) = (kids.map (hold h)).any id := by
  unfold oneX; rw [hold_thr h hx, ← cnt_any]
theorem good_all {kids : List Ex} (hx : ∀ x ∈ kids, Good x) : Good (allX kids) := good_thr hx
theorem good_one {kids : List Ex} (hx : ∀ x ∈ kids, Good x) : Good (oneX kids) := good_thr hx

/-! ### rows -/
def full (h : Int → Bool) (a : Int) (n : Nat) : Bool := ((upTo a n).map h).all id
def some' (h : Int → Bool) (a : Int) (n : Nat) : Bool := ((upTo a n).map h).any id
theorem hold_row (h : Int → Bool) (a : Int) (n : Nat) : hold h (allX (servs (upTo a n))) = full h a n := by rw [hold_all h (good_servs _), hold_servs]; rfl
theorem hold_rowS (h : Int → Bool) (a : Int) (n : Nat) : hold h (oneX (servs (upTo a n))) = some' h a n := by rw [hold_one h (good_servs _), hold_servs]; rfl
/-! ### grids -/
def rowsG (rows cols : Nat) : List (List Ex) := (List.range rows).map fun r => servs (upTo ((r * cols : Nat) : Int) cols)
def gridR (rows cols : Nat) : Ex := oneX ((rowsG rows cols).map allX)
def gridW (rows cols : Nat) : Ex := allX ((rowsG rows cols).map oneX)
theorem rowsG_good (rows cols : Nat) : ∀ l ∈ rowsG rows cols, ∀ x ∈ l, Good x := by
  intro l hl; obtain ⟨r, _, rfl⟩ := List.mem_map.1 hl; exact good_servs _
theorem hold_gridR (h : Int → Bool) (rows cols : Nat) : hold h (gridR rows cols) = ((List.range rows).map fun r => full h ((r * cols : Nat) : Int) cols).any id := by
  unfold gridR
  rw [hold_one h (fun x hx => by obtain ⟨l, hl, rfl⟩ := List.mem_map.1 hx; exact good_all (rowsG_good _ _ l hl)), List.map_map]
  unfold rowsG
  rw [List.map_map]
  congr 1
  exact List.map_congr_left (fun r _ => hold_row h _ cols)
theorem hold_gridW (h : Int → Bool) (rows cols : Nat) : hold h (gridW rows cols) = ((List.range rows).map fun r => some' h ((r * cols : Nat) : Int) cols).all id := by
  unfold gridW
  rw [hold_all h (fun x hx => by obtain ⟨l, hl, rfl⟩ := List.mem_map.1 hx; exact good_one (rowsG_good _ _ l hl)), List.map_map]
  unfold rowsG
  rw [List.map_map]
  congr 1
  exact List.map_congr_left (fun r _ => hold_rowS h _ cols)
theorem any_not {α : Type} (l : List α) (f : α → Bool) : (l.map f).any id = !((l.map fun x => !f x).all id) := by
  induction l with
  | nil => rfl
  | cons a l ih => simp only [List.map_cons, List.any_cons, List.all_cons, ih, id]; cases f a <;> simp
theorem all_not {α : Type} (l : List α) (f : α → Bool) : (l.map f).all id = !((l.map fun x => !f x).any id) := by
  induction l with
  | nil => rfl
  | cons a l ih => simp only [List.map_cons, List.any_cons, List.all_cons, ih, id]; cases f a <;> simp
/-- The write system is the dual of the read system. -/
theorem grid_dual (h g : Int → Bool) (rows cols : Nat) (hg : ∀ i : Nat, i < rows * cols → g i = !h i) : hold g (gridW rows cols) = !hold h (gridR rows cols) := by
  rw [hold_gridR, hold_gridW, any_not, Bool.not_not]
  congr 1
  refine List.map_congr_left (fun r hr => ?_)
  unfold full some' upTo
  rw [List.map_map, List.map_map, all_not, Bool.not_not]
  congr 1
  refine List.map_congr_left (fun i hi => ?_)
  have h1 := List.mem_range.1 hr
  have h2 := List.mem_range.1 hi
  have h3 : r * cols + i < rows * cols := by
    have := Nat.mul_le_mul_right cols (show r + 1 ≤ rows by omega)
    rw [Nat.add_mul] at this; omega
  have := hg (r * cols + i) h3
  simpa using this
/-! ### walls -/
def belowK (b : Nat) : List Nat → List Ex
  | [] => []
  | m :: ws => oneX (servs (upTo b m)) :: belowK (b + m) ws
def wallK (b : Nat) : List Nat → List Ex
  | [] => []
  | n :: ws => allX (allX (servs (upTo b n)) :: belowK (b + n) ws) :: wallK (b + n) ws
def wallX (ws : List Nat) : Ex := oneX (wallK 0 ws)
def someK (h : Int → Bool) (b : Nat) : List Nat → Bool
  | [] => true
  | m :: ws => some' h b m && someK h (b + m) ws
def wantK (h : Int → Bool) (b : Nat) : List Nat → Bool
  | [] => false
  | n :: ws => (full h b n && someK h (b + n) ws) || wantK h (b + n) ws
theorem belowK_good (b : Nat) (ws : List Nat) : ∀ x ∈ belowK b ws, Good x := by
  induction ws generalizing b with
  | nil => simp [belowK]
  | cons m ws ih =>
    intro x hx
    rcases List.mem_cons.1 hx with rfl | hx
    · exact good_one (good_servs _)
    · exact ih _ x hx
theorem wallK_good (b : Nat) (ws : List Nat) : ∀ x ∈ wallK b ws, Good x := by
  induction ws generalizing b with
  | nil => simp [wallK]
  | cons m ws ih =>
    intro x hx
    rcases List.mem_cons.1 hx with rfl | hx
    · refine good_all (fun y hy => ?_)
      rcases List.mem_cons.1 hy with rfl | hy
      · exact good_all (good_servs _)
      · exact belowK_good _ _ y hy
    · exact ih _ x hx
theorem hold_below (h : Int → Bool) (b : Nat) (ws : List Nat) : ((belowK b ws).map (hold h)).all id = someK h b ws := by
  induction ws generalizing b with
  | nil => rfl
  | cons m ws ih => simp only [belowK, List.map_cons, List.all_cons, ih, id, hold_rowS, someK]
theorem hold_wall (h : Int → Bool) (ws : List Nat) : hold h (wallX ws) = wantK h 0 ws := by
  unfold wallX
  rw [hold_one h (wallK_good 0 ws)]
  generalize 0 = b
  induction ws generalizing b with
  | nil => rfl
  | cons n ws ih =>
    simp only [wallK, List.map_cons, List.any_cons, ih, id, wantK]
    rw [hold_all h (fun y hy => by
      rcases List.mem_cons.1 hy with rfl | hy
      · exact good_all (good_servs _)
      · exact belowK_good _ _ y hy)]
    simp only [List.map_cons, List.all_cons, id, hold_row, hold_below]
theorem full_at {h : Int → Bool} {b n i : Nat} (hf : full h b n = true) (h1 : b ≤ i) (h2 : i < b + n) : h i = true := by
  unfold full upTo at hf
  rw [List.map_map, List.all_eq_true] at hf
  have := hf (h ((b : Int) + ((i - b : Nat) : Int))) (List.mem_map.2 ⟨i - b, List.mem_range.2 (by omega), rfl⟩)
  rw [show (b : Int) + ((i - b : Nat) : Int) = (i : Nat) by omega] at this
  exact this
theorem some_at {h : Int → Bool} {b n : Nat} (hf : some' h b n = true) : ∃ i, b ≤ i ∧ i < b + n ∧ h i = true := by
  unfold some' upTo at hf
  rw [List.map_map, List.any_eq_true] at hf
  obtain ⟨x, hx, hx2⟩ := hf
  obtain ⟨i, hi, rfl⟩ := List.mem_map.1 hx
  have := List.mem_range.1 hi
  exact ⟨b + i, by omega, by omega, by simpa using hx2⟩
theorem wall_meet2 {h g : Int → Bool} {ws : List Nat} {b : Nat} (hg : wantK g b ws = true) (hs : someK h b ws = true) : ∃ i, b ≤ i ∧ i < b + ws.sum ∧ h i = true ∧ g i = true := by
  induction ws generalizing b with
  | nil => simp [wantK] at hg
  | cons n ws ih =>
    simp only [wantK, Bool.or_eq_true, Bool.and_eq_true] at hg
    simp only [someK, Bool.and_eq_true] at hs
    rcases hg with ⟨hf, _⟩ | hw
    · obtain ⟨i, h1, h2, h3⟩ := some_at hs.1
      exact ⟨i, h1, by simp; omega, h3, full_at hf h1 h2⟩
    · obtain ⟨i, h1, h2, h3⟩ := ih hw hs.2
      exact ⟨i, by omega, by simp; omega, h3⟩
theorem wall_meet {h g : Int → Bool} {ws : List Nat} {b : Nat} (hp : ∀ w ∈ ws, 1 ≤ w) (hh : wantK h b ws = true) (hg : wantK g b ws = true) : ∃ i, b ≤ i ∧ i < b + ws.sum ∧ h i = true ∧ g i = true := by
  induction ws generalizing b with
  | nil => simp [wantK] at hg
  | cons n ws ih =>
    simp only [wantK, Bool.or_eq_true, Bool.and_eq_true] at hg hh
    have hn := hp n (by simp)
    rcases hh with ⟨hf, hs⟩ | hw
    · rcases hg with ⟨hf2, _⟩ | hw2
      · exact ⟨b, by omega, by simp; omega, full_at hf (by omega) (by omega), full_at hf2 (by omega) (by omega)⟩
      · obtain ⟨i, h1, h2, h3⟩ := wall_meet2 hw2 hs
        exact ⟨i, by omega, by simp; omega, h3⟩
    · rcases hg with ⟨hf2, hs2⟩ | hw2
      · obtain ⟨i, h1, h2, h3, h4⟩ := wall_meet2 hw hs2
        exact ⟨i, by omega, by simp; omega, h4, h3⟩
      · obtain ⟨i, h1, h2, h3⟩ := ih (fun w hw => hp w (by simp [hw])) hw hw2
        exact ⟨i, by omega, by simp; omega, h3⟩
/-! ### majorities -/
def comm (h g : Int → Bool) (n : Nat) : Nat := cnt ((upTo 0 n).map fun i => h i && g i)
theorem cnt_add (l : List Int) (h g : Int → Bool) : cnt (l.map h) + cnt (l.map g) ≤ l.length + cnt (l.map fun i => h i && g i) := by
  induction l with
  | nil => simp [cnt]
  | cons a l ih =>
    have e : ∀ b : Bool, ∀ l : List Bool, cnt (b :: l) = (if b then 1 else 0) + cnt l := by
      intro b l; cases b <;> simp [cnt] <;> omega
    simp only [List.map_cons, e, List.length_cons]
    cases h a <;> cases g a <;> simp <;> omega
theorem cnt_mono {n m : Nat} (hn : n ≤ m) (f : Int → Bool) : cnt ((upTo 0 n).map f) ≤ cnt ((upTo 0 m).map f) := by
  obtain ⟨d, rfl⟩ := Nat.le.dest hn
  unfold upTo
  rw [List.range_add, List.map_append, List.map_append]
  unfold cnt
  rw [List.filter_append, List.length_append]; omega
theorem hold_upTo (h : Int → Bool) (need : Int) (n : Nat) : hold h (thr need (servs (upTo 0 n)) true []) = decide (need ≤ (cnt ((upTo 0 n).map h) : Nat)) := by
  rw [hold_thr h (good_servs _), hold_servs]
theorem upTo_len (a : Int) (n : Nat) : (upTo a n).length = n := by simp [upTo]
theorem thr_meet {h g : Int → Bool} {need : Int} {n : Nat} (hn : n ≤ 12) (h1 : hold h (thr need (servs (upTo 0 n)) true []) = true) (h2 : hold g (thr need (servs (upTo 0 n)) true []) = true) : 2 * need - n ≤ (comm h g 12 : Nat) := by
  rw [hold_upTo, decide_eq_true_eq] at h1 h2
  have h3 := cnt_add (upTo 0 n) h g
  rw [upTo_len] at h3
  have h4 := cnt_mono hn (fun i => h i && g i)
  unfold comm; omega
theorem cnt_not (l : List Int) (h g : Int → Bool) (hg : ∀ i ∈ l, g i = !h i) : cnt (l.map h) + cnt (l.map g) = l.length := by
  induction l with
  | nil => rfl
  | cons a l ih =>
    have e : ∀ b : Bool, ∀ l : List Bool, cnt (b :: l) = (if b then 1 else 0) + cnt l := by
      intro b l; cases b <;> simp [cnt] <;> omega
    have ha := hg a (by simp)
    have := ih (fun i hi => hg i (by simp [hi]))
    simp only [List.map_cons, e, List.length_cons, ha]
    cases h a <;> simp <;> omega
theorem odd_dual {h g : Int → Bool} {m : Nat} (hg : ∀ i : Nat, i < 2 * m + 1 → g i = !h i) : hold h (thr ((m : Int) + 1) (servs (upTo 0 (2 * m + 1))) true []) = !hold g (thr ((m : Int) + 1) (servs (upTo 0 (2 * m + 1))) true []) := by
  rw [hold_upTo, hold_upTo]
  have := cnt_not (upTo 0 (2 * m + 1)) h g (fun i hi => by
    obtain ⟨k, hk, rfl⟩ := List.mem_map.1 hi
    have := hg k (List.mem_range.1 hk)
    simpa using this)
  rw [upTo_len] at this
  rw [Bool.eq_iff_iff]; simp; omega
/-! ### trees -/
def q3 (a b c : Bool) : Bool := decide ((2 : Int) ≤ (cnt [a, b, c] : Nat))
theorem q3_eq (a b c : Bool) : q3 a b c = ((a && (b || c)) || (b && c)) := by revert a b c; decide
theorem q3_not (a b c : Bool) : q3 (!a) (!b) (!c) = !q3 a b c := by revert a b c; decide
theorem q3_meet {a b c x y z : Bool} (h : q3 a b c = true) (g : q3 x y z = true) : (a && x) = true ∨ (b && y) = true ∨ (c && z) = true := by revert a b c x y z; decide
def node3 (a b c : Ex) : Ex := thr 2 [a, b, c] true []
theorem hold_node3 (h : Int → Bool) {a b c : Ex} (ga : Good a) (gb : Good b) (gc : Good c) : hold h (node3 a b c) = q3 (hold h a) (hold h b) (hold h c) := by
  unfold node3
  rw [hold_thr h (by simp [ga, gb, gc])]; rfl
theorem good_node3 {a b c : Ex} (ga : Good a) (gb : Good b) (gc : Good c) : Good (node3 a b c) := good_thr (by simp [ga, gb, gc])
def tree1 : Ex := srv 0
def tree2 : Ex := node3 (srv 0) (srv 1) (srv 2)
def tree3 : Ex := node3 (srv 0) (node3 (srv 1) (srv 3) (srv 4)) (node3 (srv 2) (srv 5) (srv 6))
theorem hold_tree2 (h : Int → Bool) : hold h tree2 = q3 (h 0) (h 1) (h 2) := by
  unfold tree2; rw [hold_node3 h (good_srv _) (good_srv _) (good_srv _)]; simp only [hold_srv]
theorem hold_tree3 (h : Int → Bool) : hold h tree3 = q3 (h 0) (q3 (h 1) (h 3) (h 4)) (q3 (h 2) (h 5) (h 6)) := by
  unfold tree3
  rw [hold_node3 h (good_srv _) (good_node3 (good_srv _) (good_srv _) (good_srv _)) (good_node3 (good_srv _) (good_srv _) (good_srv _)), hold_node3 h (good_srv _) (good_srv _) (good_srv _), hold_node3 h (good_srv _) (good_srv _) (good_srv _)]
  simp only [hold_srv]
theorem comm_pos {h g : Int → Bool} {i n : Nat} (hi : i < n) (h1 : h i = true) (h2 : g i = true) : 1 ≤ comm h g n := by
  have := cnt_any ((upTo 0 n).map fun i => h i && g i)
  have e : ((upTo 0 n).map fun i => h i && g i).any id = true := by
    rw [List.any_eq_true]
    refine ⟨true, List.mem_map.2 ⟨(i : Int), List.mem_map.2 ⟨i, List.mem_range.2 hi, by simp⟩, by simp [h1, h2]⟩, rfl⟩
  rw [e, decide_eq_true_eq] at this
  unfold comm; omega
theorem tree2_meet {h g : Int → Bool} (h1 : hold h tree2 = true) (h2 : hold g tree2 = true) : ∃ i : Nat, i < 7 ∧ h i = true ∧ g i = true := by
  rw [hold_tree2] at h1 h2
  rcases q3_meet h1 h2 with e | e | e <;> rw [Bool.and_eq_true] at e
  · exact ⟨0, by omega, e.1, e.2⟩
  · exact ⟨1, by omega, e.1, e.2⟩
  · exact ⟨2, by omega, e.1, e.2⟩
theorem tree3_meet {h g : Int → Bool} (h1 : hold h tree3 = true) (h2 : hold g tree3 = true) : ∃ i : Nat, i < 7 ∧ h i = true ∧ g i = true := by
  rw [hold_tree3] at h1 h2
  rcases q3_meet h1 h2 with e | e | e <;> rw [Bool.and_eq_true] at e
  · exact ⟨0, by omega, e.1, e.2⟩
  · rcases q3_meet e.1 e.2 with e | e | e <;> rw [Bool.and_eq_true] at e
    · exact ⟨1, by omega, e.1, e.2⟩
    · exact ⟨3, by omega, e.1, e.2⟩
    · exact ⟨4, by omega, e.1, e.2⟩
  · rcases q3_meet e.1 e.2 with e | e | e <;> rw [Bool.and_eq_true] at e
    · exact ⟨2, by omega, e.1, e.2⟩
    · exact ⟨5, by omega, e.1, e.2⟩
    · exact ⟨6, by omega, e.1, e.2⟩
end Go.Bp
/- Bp3. -/
set_option linter.unusedVariables false
set_option linter.unusedSectionVars false
set_option linter.unusedSimpArgs false
set_option maxRecDepth 20000
namespace Go.Bp

/-! ### valid expressions -/
def heavy (w : Int) : Bool := decide (w < 1) || decide (1000 < w)
def unk (i : Nat) (k : Int) : Bool := decide (k < 0) || decide ((i : Int) ≤ k)
/-- The error of the node with an index. -/
def nodeE (n : Nd) (i : Nat) : Int :=
  if (n.kind ≠ 1 ∧ n.kind ≠ 2) ∨ (n.kind = 1 ∧ (n.need ≠ 0 ∨ n.w ≠ [] ∨ n.k ≠ [])) ∨ (n.kind = 2 ∧ n.server ≠ 0) then 1
  else if n.server < 0 ∨ 12 ≤ n.server ∨ n.need < 0 ∨ 100000 < n.need then 7
  else if n.w.any heavy = true then 7
  else if n.w ≠ [] ∧ n.w.length ≠ n.k.length then 6
  else if n.k.any (unk i) = true then 4 else 0
def nodesE (i : Nat) : List Nd → Int
  | [] => 0
  | n :: ns => if nodeE n i = 0 then nodesE (i + 1) ns else nodeE n i
def validE (x : Ex) : Int :=
  if x.nodes.length = 0 then 9 else if 60 < x.nodes.length then 3 else if nodesE 0 x.nodes ≠ 0 then nodesE 0 x.nodes else if x.root < 0 ∨ (x.nodes.length : Int) ≤ x.root then 4 else 0
theorem nodesE_app (i : Nat) (a b : List Nd) (h : nodesE i a = 0) : nodesE i (a ++ b) = nodesE (i + a.length) b := by
  induction a generalizing i with
  | nil => simp
  | cons n ns ih =>
    simp only [nodesE] at h
    by_cases h0 : nodeE n i = 0
    · rw [if_pos h0] at h
      simp only [List.cons_append, nodesE, if_pos h0, List.length_cons]
      rw [ih (i + 1) h]; congr 1; omega
    · rw [if_neg h0] at h; exact absurd h h0
theorem nodesE_at {a : List Nd} {j : Nat} (hj : j < a.length) (h : nodesE 0 (a.take j) = 0) : nodesE 0 a = if nodeE (a.getD j default) j = 0 then nodesE (j + 1) (a.drop (j + 1)) else nodeE (a.getD j default) j := by
  have e : a = a.take j ++ a.getD j default :: a.drop (j + 1) := by
    have : a.drop j = a.getD j default :: a.drop (j + 1) := by rw [List.drop_eq_getElem_cons hj]; simp [List.getD_eq_getElem?_getD, hj]
    rw [← this, List.take_append_drop]
  conv => lhs; rw [e]
  rw [nodesE_app 0 _ _ h, Nat.zero_add, List.length_take, Nat.min_eq_left (by omega)]; rfl
theorem nodesE_bad {a : List Nd} {j : Nat} (hj : j < a.length) (h : nodesE 0 (a.take j) = 0) (hn : nodeE (a.getD j default) j ≠ 0) : nodesE 0 a = nodeE (a.getD j default) j := by
  rw [nodesE_at hj h, if_neg hn]
theorem nodesE_s {a : List Nd} {j : Nat} (hj : j < a.length) (h : nodesE 0 (a.take j) = 0) (hn : nodeE (a.getD j default) j = 0) : nodesE 0 (a.take (j + 1)) = 0 := by
  have e : a.take (j + 1) = a.take j ++ [a.getD j default] := by rw [List.take_add_one]; simp [List.getD_eq_getElem?_getD, hj]
  rw [e, nodesE_app 0 _ _ h, Nat.zero_add, List.length_take, Nat.min_eq_left (by omega)]
  simp only [nodesE, if_pos hn]
theorem nodesE_all {a : List Nd} (h : nodesE 0 a = 0) {j : Nat} (hj : j < a.length) : nodeE (a.getD j default) j = 0 := by
  have main : ∀ (a : List Nd) (i j : Nat), nodesE i a = 0 → j < a.length → nodeE (a.getD j default) (i + j) = 0 := by
    intro a
    induction a with
    | nil => intro i j _ hj; simp at hj
    | cons n ns ih =>
      intro i j h hj
      simp only [nodesE] at h
      by_cases h0 : nodeE n i = 0
      · rw [if_pos h0] at h
        cases j with
        | zero => simpa using h0
        | succ j =>
          have := ih (i + 1) j h (by simpa using hj)
          rw [show i + 1 + j = i + (j + 1) by omega] at this
          simpa using this
      · rw [if_neg h0] at h; exact absurd h h0
  have := main a 0 j h hj
  rwa [Nat.zero_add] at this
structure NOk (n : Nd) (i : Nat) : Prop where
  kind : n.kind = 1 ∨ n.kind = 2
  srv : 0 ≤ n.server ∧ n.server < 12
  leaf : n.kind = 1 → n.need = 0 ∧ n.w = [] ∧ n.k = []
  zero : n.kind = 2 → n.server = 0
  need : 0 ≤ n.need ∧ n.need ≤ 100000
  ws : ∀ w ∈ n.w, 1 ≤ w ∧ w ≤ 1000
  wl : n.w ≠ [] → n.w.length = n.k.length
  ks : ∀ k ∈ n.k, 0 ≤ k ∧ k < i
theorem nodeE_ok {n : Nd} {i : Nat} (h : nodeE n i = 0) : NOk n i := by
  unfold nodeE at h
  split at h
  · cases h
  · rename_i h1
    split at h
    · cases h
    · rename_i h2
      split at h
      · cases h
      · rename_i h3
        split at h
        · cases h
        · rename_i h4
          split at h
          · cases h
          · rename_i h5
            refine ⟨?_, by omega, fun hk => ?_, fun hk => ?_, by omega, fun w hw => ?_, fun hw => ?_, fun k hk => ?_⟩
            · refine Classical.byContradiction fun hn => h1 (.inl ?_); omega
            · refine Classical.byContradiction fun hn => h1 (.inr (.inl ⟨hk, ?_⟩))
              by_cases a : n.need = 0
              · by_cases b : n.w = []
                · by_cases c : n.k = []
                  · exact absurd ⟨a, b, c⟩ hn
                  · exact .inr (.inr c)
                · exact .inr (.inl b)
              · exact .inl a
            · refine Classical.byContradiction fun hn => h1 (.inr (.inr ⟨hk, hn⟩))
            · have : heavy w = false := by
                rw [Bool.eq_false_iff]; intro hb; exact h3 (List.any_eq_true.2 ⟨w, hw, hb⟩)
              simp [heavy] at this; omega
            · refine Classical.byContradiction fun hn => h4 ⟨hw, hn⟩
            · have : unk i k = false := by
                rw [Bool.eq_false_iff]; intro hb; exact h5 (List.any_eq_true.2 ⟨k, hk, hb⟩)
              simp [unk] at this; omega
structure XOk (x : Ex) : Prop where
  pos : 0 < x.nodes.length
  few : x.nodes.length ≤ 60
  node : ∀ j, j < x.nodes.length → NOk (x.nodes.getD j default) j
  root : 0 ≤ x.root ∧ x.root < x.nodes.length
theorem validE_ok {x : Ex} (h : validE x = 0) : XOk x := by
  unfold validE at h
  split at h
  · cases h
  · split at h
    · cases h
    · split at h
      · rename_i h3; exact absurd h h3
      · rename_i h3
        split at h
        · cases h
        · refine ⟨by omega, by omega, fun j hj => nodeE_ok (nodesE_all (Decidable.not_not.1 h3) hj), by omega⟩
/-! ### nodes without their flags -/
def core (n : Nd) : Int × Int × Int × List Int × List Int := (n.kind, n.server, n.need, n.w, n.k)
def sameX (x y : Ex) : Bool := decide (x.root = y.root) && decide (x.nodes.map core = y.nodes.map core)
theorem sameX_refl (x : Ex) : sameX x x = true := by simp [sameX]
/-! ### trees written out: 'mk' makes a node with other kids; 'sub' writes what stands for a server -/
def growK (g : Nat → List Nd → List Nd) (mk : Nd → List Int → Nd) (n : Nd) : List Int → List Nd → List Int → List Nd
  | [], out, ks => out ++ [mk n ks]
  | k :: kk, out, ks => growK g mk n kk (g k.toNat out) (ks ++ [((g k.toNat out).length : Int) - 1])
def growG (mk : Nd → List Int → Nd) (sub : List Nd → Nd → Option (List Nd)) (nodes : List Nd) : Nat → Nat → List Nd → List Nd
  | 0, _, out => out
  | f + 1, i, out => match sub out (nodes.getD i default) with
    | some out' => out'
    | none => growK (growG mk sub nodes f) mk (nodes.getD i default) (nodes.getD i default).k out []
end Go.Bp
/- Bp4. -/
set_option linter.unusedVariables false
set_option linter.unusedSectionVars false
set_option linter.unusedSimpArgs false
set_option maxRecDepth 20000
namespace Go.Bp
structure NF (c : Nat) (n : Nd) : Prop where
  wz : n.wz = true → n.w = []
  kzz : n.kz = n.k.isEmpty
  wl : n.w.length ≤ 1000
  kl : n.k.length ≤ 1000
  ky : ∀ y ∈ n.k, 0 ≤ y ∧ y < c
structure XF (b : Nat) (x : Ex) : Prop where
  ne : x.nodes ≠ []
  root : x.root = (x.nodes.length : Int) - 1
  few : x.nodes.length ≤ b
  nd : ∀ n ∈ x.nodes, NF x.nodes.length n
theorem XF.mono {b c : Nat} {x : Ex} (h : XF b x) (hb : b ≤ c) : XF c x := ⟨h.ne, h.root, Nat.le_trans h.few hb, h.nd⟩
theorem XF.good {b : Nat} {x : Ex} (h : XF b x) : Good x := ⟨h.ne, h.root, fun n hn y hy => ((h.nd n hn).ky y hy).1⟩
theorem XF_srv (i : Int) : XF 1 (srv i) := ⟨by simp [srv], by simp [srv], by simp [srv], fun n hn => by
  simp [srv] at hn; subst hn; exact ⟨fun _ => rfl, rfl, by simp, by simp, by simp⟩⟩
theorem NF.sh {c d : Nat} {n : Nd} (h : NF c n) : NF (d + c) (sh d n) := ⟨h.wz, by rw [show (Bp.sh d n).kz = n.kz from rfl, h.kzz]; show _ = (n.k.map _).isEmpty; cases n.k <;> rfl, h.wl, by
  show (n.k.map _).length ≤ 1000
  rw [List.length_map]; exact h.kl, fun y hy => by
  obtain ⟨u, hu, rfl⟩ := List.mem_map.1 hy
  have := h.ky u hu
  show 0 ≤ u + (d : Int) ∧ u + (d : Int) < _
  omega⟩
theorem NF.mono {c d : Nat} {n : Nd} (h : NF c n) (hc : c ≤ d) : NF d n := ⟨h.wz, h.kzz, h.wl, h.kl, fun y hy => by have := h.ky y hy; omega⟩
theorem nodesA_NF (b : Nat) (acc : List Nd) (xs : List Ex) (ha : ∀ n ∈ acc, NF acc.length n) (hx : ∀ x ∈ xs, XF b x) : ∀ n ∈ nodesA acc xs, NF (nodesA acc xs).length n := by
  induction xs generalizing acc with
  | nil => exact ha
  | cons x xs ih =>
    refine ih _ (fun n hn => ?_) (fun z hz => hx z (by simp [hz]))
    rw [List.length_append, List.length_map]
    rcases List.mem_append.1 hn with hn | hn
    · exact (ha n hn).mono (by omega)
    · obtain ⟨m, hm, rfl⟩ := List.mem_map.1 hn
      exact ((hx x (by simp)).nd m hm).sh
theorem nodesA_few (b : Nat) (acc : List Nd) (xs : List Ex) (hx : ∀ x ∈ xs, XF b x) : (nodesA acc xs).length ≤ acc.length + xs.length * b := by
  induction xs generalizing acc with
  | nil => simp [nodesA]
  | cons x xs ih =>
    have h1 := ih (acc ++ x.nodes.map (sh acc.length)) (fun z hz => hx z (by simp [hz]))
    have h2 := (hx x (by simp)).few
    rw [List.length_append, List.length_map] at h1
    rw [nodesA, List.length_cons, Nat.add_mul]; omega
theorem rootsA_lt (b : Nat) (xs : List Ex) (acc : List Nd) (hx : ∀ x ∈ xs, XF b x) : ∀ y ∈ rootsA acc.length xs, 0 ≤ y ∧ y < (nodesA acc xs).length := by
  induction xs generalizing acc with
  | nil => simp [rootsA]
  | cons x xs ih =>
    have g := hx x (by simp)
    have e : acc.length + x.nodes.length = (acc ++ x.nodes.map (sh acc.length)).length := by simp
    intro y hy
    rcases List.mem_cons.1 hy with rfl | hy
    · have h0 : 0 < x.nodes.length := List.length_pos_iff.2 g.ne
      have h1 := g.root
      have h2 := nodesA_len (acc ++ x.nodes.map (sh acc.length)) xs
      rw [nodesA, h2, ← e]; omega
    · rw [e] at hy
      exact ih _ (fun z hz => hx z (by simp [hz])) y hy
theorem XF_thr {need : Int} {kids : List Ex} {wz : Bool} {w : List Int} {b c : Nat} (h : ∀ x ∈ kids, XF b x) (hc : kids.length ≤ c) (hc2 : c ≤ 1000) (hz : wz = true → w = []) (hw : w.length ≤ 1000) : XF (c * b + 1) (thr need kids wz w) := by
  have hl := nodesA_few b [] kids h
  have hm := Nat.mul_le_mul_right b hc
  refine ⟨by simp [thr], by simp [thr], by simp [thr] at hl ⊢; omega, fun n hn => ?_⟩
  have e : (thr need kids wz w).nodes.length = (nodesA [] kids).length + 1 := by simp [thr]
  rw [e]
  rcases List.mem_append.1 hn with hn | hn
  · exact (nodesA_NF b [] kids (by simp) h n hn).mono (by omega)
  · rw [List.mem_singleton.1 hn]
    refine ⟨hz, rfl, hw, by show (rootsA 0 kids).length ≤ 1000; rw [rootsA_len]; omega, fun y hy => ?_⟩
    have := rootsA_lt b kids [] h y hy
    omega
end Go.Bp
/- Bp5. -/
set_option linter.unusedVariables false
set_option linter.unusedSectionVars false
set_option linter.unusedSimpArgs false
namespace Go.Bp
def ix {α : Type} (p : α → Bool) (l : List α) : Int := match l.findIdx? p with
  | some i => i
  | none => -1
section
variable {α : Type} [Inhabited α] {p : α → Bool} {l : List α} {j : Nat}
theorem ix_hit (hj : j < l.length) (h : ∀ i, i < j → p (l.getD i default) = false) (hp : p (l.getD j default) = true) : ix p l = j := by
  have : l.findIdx? p = some j := by
    rw [List.findIdx?_eq_some_iff_getElem]
    refine ⟨hj, by simpa [List.getD_eq_getElem?_getD, hj] using hp, fun i hi => ?_⟩
    have := h i hi
    have hil : i < l.length := by omega
    simpa [List.getD_eq_getElem?_getD, hil] using this
  unfold ix; rw [this]
theorem ix_none (h : ∀ i, i < l.length → p (l.getD i default) = false) : ix p l = -1 := by
  have : l.findIdx? p = none := by
    rw [List.findIdx?_eq_none_iff]
    intro x hx
    obtain ⟨i, hi, rfl⟩ := List.getElem_of_mem hx
    have := h i hi
    simpa [List.getD_eq_getElem?_getD, hi] using this
  unfold ix; rw [this]
theorem nx_false (h : ∀ i, i < j → p (l.getD i default) = false) (hp : p (l.getD j default) = false) : ∀ i, i < j + 1 → p (l.getD i default) = false := fun i hi => by
  by_cases e : i = j
  · subst e; exact hp
  · exact h i (by omega)
theorem ix_any : decide (0 ≤ ix p l) = l.any p := by
  unfold ix
  cases h : l.findIdx? p with
  | none =>
    rw [List.findIdx?_eq_none_iff] at h
    have : l.any p = false := by rw [List.any_eq_false]; intro x hx; simp [h x hx]
    rw [this]; rfl
  | some i =>
    rw [List.findIdx?_eq_some_iff_getElem] at h
    obtain ⟨hi, hp, _⟩ := h
    have : l.any p = true := List.any_eq_true.2 ⟨_, List.getElem_mem hi, hp⟩
    rw [this]; simp
theorem any_at (h : ∀ i, i < l.length → p (l.getD i default) = false) : l.any p = false := by
  rw [List.any_eq_false]
  intro x hx
  obtain ⟨i, hi, rfl⟩ := List.getElem_of_mem hx
  have := h i hi
  simpa [List.getD_eq_getElem?_getD, hi] using this
theorem any_hit (hj : j < l.length) (hp : p (l.getD j default) = true) : l.any p = true := by
  refine List.any_eq_true.2 ⟨l[j], List.getElem_mem hj, ?_⟩
  simpa [List.getD_eq_getElem?_getD, hj] using hp
end
def badS (i : Int) : Bool := decide (i < 0) || decide (12 ≤ i)
/-- Does a number stand in a list twice? 'dupN l n': among the first n. -/
def hasB (l : List Int) (x : Int) : Bool := l.any fun y => decide (x = y)
def dupA (l : List Int) : Nat → Bool
  | 0 => false
  | n + 1 => dupA l n || hasB (l.take n) (l.getD n default)
def distE (l : List Int) : Int := if l.any badS = true then 7 else if dupA l l.length = true then 5 else 0
theorem dupA_mono {l : List Int} {n m : Nat} (h : dupA l n = true) (hm : n ≤ m) : dupA l m = true := by
  induction m with
  | zero => rw [Nat.le_zero.1 hm] at h; exact h
  | succ m ih =>
    rcases Nat.lt_or_eq_of_le hm with h1 | h1
    · simp [dupA, ih (by omega)]
    · rw [← h1]; exact h
theorem distE_7 {l : List Int} (h : l.any badS = true) : distE l = 7 := by unfold distE; rw [if_pos h]
theorem distE_5 {l : List Int} {j : Nat} (h : l.any badS = false) (hj : j < l.length) (hd : hasB (l.take j) (l.getD j default) = true) : distE l = 5 := by
  have : dupA l (j + 1) = true := by rw [dupA, hd, Bool.or_true]
  unfold distE; rw [if_neg (by simp [h]), if_pos (dupA_mono this hj)]
theorem distE_0 {l : List Int} (h : l.any badS = false) (hd : dupA l l.length = false) : distE l = 0 := by
  unfold distE; rw [if_neg (by simp [h]), if_neg (by simp [hd])]
theorem dupA_s {l : List Int} {n : Nat} (h : dupA l n = false) (h2 : hasB (l.take n) (l.getD n default) = false) : dupA l (n + 1) = false := by rw [dupA, h, h2]; rfl
theorem hasB_hit {l : List Int} {i j : Nat} (hi : i < j) (hj : j < l.length) (h : l.getD j default = l.getD i default) : hasB (l.take j) (l.getD j default) = true := by
  unfold hasB
  refine List.any_eq_true.2 ⟨l.getD i default, ?_, by simp only [decide_eq_true_eq]; exact h⟩
  have : l.getD i default = (l.take j)[i]'(by simp; omega) := by simp [List.getD_eq_getElem?_getD, show i < l.length by omega]
  rw [this]; exact List.getElem_mem _
theorem hasB_no {l : List Int} {j : Nat} (hj : j ≤ l.length) (h : ∀ i, i < j → ¬ l.getD j default = l.getD i default) : hasB (l.take j) (l.getD j default) = false := by
  unfold hasB
  rw [List.any_eq_false]
  intro x hx
  obtain ⟨i, hi, rfl⟩ := List.getElem_of_mem hx
  rw [List.length_take] at hi
  have := h i (by omega)
  simp only [decide_eq_true_eq]
  intro e; apply this; rw [e]; simp [List.getD_eq_getElem?_getD, show i < l.length by omega]
/-- What makes the error of a node: told by lengths. -/
def badK (n : Nd) : Prop := (n.kind ≠ 1 ∧ n.kind ≠ 2) ∨ (n.kind = 1 ∧ (n.need ≠ 0 ∨ 0 < n.w.length ∨ 0 < n.k.length)) ∨ (n.kind = 2 ∧ n.server ≠ 0)
def badR (n : Nd) : Prop := n.server < 0 ∨ 12 ≤ n.server ∨ n.need < 0 ∨ 100000 < n.need
theorem ne_len {α : Type} {l : List α} : l ≠ [] ↔ 0 < l.length := by cases l <;> simp
theorem nodeE_k {n : Nd} {i : Nat} (h : badK n) : nodeE n i = 1 := by
  unfold nodeE; rw [if_pos]
  unfold badK at h; rw [ne_len, ne_len]; exact h
theorem nodeE_nk {n : Nd} {i : Nat} (h : ¬ badK n) : nodeE n i = if n.server < 0 ∨ 12 ≤ n.server ∨ n.need < 0 ∨ 100000 < n.need then 7 else if n.w.any heavy = true then 7 else if n.w ≠ [] ∧ n.w.length ≠ n.k.length then 6 else if n.k.any (unk i) = true then 4 else 0 := by
  unfold nodeE; rw [if_neg]
  unfold badK at h; rw [ne_len, ne_len]; exact h
theorem nodeE_r {n : Nd} {i : Nat} (h : ¬ badK n) (h2 : badR n) : nodeE n i = 7 := by unfold badR at h2; rw [nodeE_nk h, if_pos h2]
theorem nodeE_h {n : Nd} {i : Nat} (h : ¬ badK n) (h2 : ¬ badR n) (h3 : n.w.any heavy = true) : nodeE n i = 7 := by unfold badR at h2; rw [nodeE_nk h, if_neg h2, if_pos h3]
theorem nodeE_6 {n : Nd} {i : Nat} (h : ¬ badK n) (h2 : ¬ badR n) (h3 : n.w.any heavy = false) (h4 : 0 < n.w.length ∧ n.w.length ≠ n.k.length) : nodeE n i = 6 := by
  unfold badR at h2; rw [nodeE_nk h, if_neg h2, if_neg (by simp [h3]), if_pos (by rw [ne_len]; exact h4)]
theorem nodeE_4 {n : Nd} {i : Nat} (h : ¬ badK n) (h2 : ¬ badR n) (h3 : n.w.any heavy = false) (h4 : ¬ (0 < n.w.length ∧ n.w.length ≠ n.k.length)) (h5 : n.k.any (unk i) = true) : nodeE n i = 4 := by
  unfold badR at h2; rw [nodeE_nk h, if_neg h2, if_neg (by simp [h3]), if_neg (by rw [ne_len]; exact h4), if_pos h5]
theorem nodeE_0 {n : Nd} {i : Nat} (h : ¬ badK n) (h2 : ¬ badR n) (h3 : n.w.any heavy = false) (h4 : ¬ (0 < n.w.length ∧ n.w.length ≠ n.k.length)) (h5 : n.k.any (unk i) = false) : nodeE n i = 0 := by
  unfold badR at h2; rw [nodeE_nk h, if_neg h2, if_neg (by simp [h3]), if_neg (by rw [ne_len]; exact h4), if_neg (by simp [h5])]
theorem heavy_t {w : Int} (h : w < 1 ∨ 1000 < w) : heavy w = true := by simp [heavy]; omega
theorem heavy_f {w : Int} (h : ¬ w < 1) (h2 : ¬ 1000 < w) : heavy w = false := by simp [heavy]; omega
theorem unk_t {i : Nat} {k : Int} (h : k < 0 ∨ (i : Int) ≤ k) : unk i k = true := by simp [unk]; omega
theorem unk_f {i : Nat} {k : Int} (h : ¬ k < 0) (h2 : ¬ (i : Int) ≤ k) : unk i k = false := by simp [unk]; omega
theorem validE_9 {x : Ex} (h : x.nodes.length = 0) : validE x = 9 := by unfold validE; rw [if_pos h]
theorem validE_3 {x : Ex} (h : 60 < x.nodes.length) : validE x = 3 := by unfold validE; rw [if_neg (by omega), if_pos h]
theorem validE_n {x : Ex} {j : Nat} (h1 : x.nodes.length ≤ 60) (hj : j < x.nodes.length) (h : nodesE 0 (x.nodes.take j) = 0) (hn : ¬ nodeE (x.nodes.getD j default) j = 0) : validE x = nodeE (x.nodes.getD j default) j := by
  have e := nodesE_bad hj h hn
  unfold validE; rw [if_neg (by omega), if_neg (by omega), if_pos (by rw [e]; exact hn), e]
theorem validE_4 {x : Ex} (h0 : 0 < x.nodes.length) (h1 : x.nodes.length ≤ 60) (h : nodesE 0 x.nodes = 0) (hr : x.root < 0 ∨ (x.nodes.length : Int) ≤ x.root) : validE x = 4 := by
  unfold validE; rw [if_neg (by omega), if_neg (by omega), if_neg (by simp [h]), if_pos hr]
theorem validE_0 {x : Ex} (h0 : 0 < x.nodes.length) (h1 : x.nodes.length ≤ 60) (h : nodesE 0 x.nodes = 0) (hr : ¬ (x.root < 0 ∨ (x.nodes.length : Int) ≤ x.root)) : validE x = 0 := by
  unfold validE; rw [if_neg (by omega), if_neg (by omega), if_neg (by simp [h]), if_neg hr]
theorem core_kind {a b : Nd} (h : ¬ a.kind = b.kind) : ¬ core a = core b := fun e => h (by simp [core] at e; exact e.1)
theorem core_srv {a b : Nd} (h : ¬ a.server = b.server) : ¬ core a = core b := fun e => h (by simp [core] at e; exact e.2.1)
theorem core_need {a b : Nd} (h : ¬ a.need = b.need) : ¬ core a = core b := fun e => h (by simp [core] at e; exact e.2.2.1)
theorem core_w {a b : Nd} (h : ¬ a.w = b.w) : ¬ core a = core b := fun e => h (by simp [core] at e; exact e.2.2.2.1)
theorem core_k {a b : Nd} (h : ¬ a.k = b.k) : ¬ core a = core b := fun e => h (by simp [core] at e; exact e.2.2.2.2)
theorem core_eq {a b : Nd} (h1 : a.kind = b.kind) (h2 : a.server = b.server) (h3 : a.need = b.need) (h4 : a.w = b.w) (h5 : a.k = b.k) : core a = core b := by simp [core, h1, h2, h3, h4, h5]
theorem sameX_root {x y : Ex} (h : ¬ x.root = y.root) : sameX x y = false := by simp [sameX, h]
theorem sameX_len {x y : Ex} (h : ¬ x.nodes.length = y.nodes.length) : sameX x y = false := by
  have : ¬ x.nodes.map core = y.nodes.map core := fun e => h (by have := congrArg List.length e; simpa using this)
  unfold sameX; rw [decide_eq_false this, Bool.and_false]
theorem sameX_at {x y : Ex} {j : Nat} (h1 : j < x.nodes.length) (h2 : j < y.nodes.length) (h : ¬ core (x.nodes.getD j default) = core (y.nodes.getD j default)) : sameX x y = false := by
  have : ¬ x.nodes.map core = y.nodes.map core := fun e => h (by
    have := congrArg (fun l => l[j]?) e
    simpa [List.getD_eq_getElem?_getD, h1, h2] using this)
  unfold sameX; rw [decide_eq_false this, Bool.and_false]
theorem sameX_all {x y : Ex} (h0 : x.root = y.root) (h1 : x.nodes.length = y.nodes.length) (h : ∀ i, i < x.nodes.length → core (x.nodes.getD i default) = core (y.nodes.getD i default)) : sameX x y = true := by
  have : x.nodes.map core = y.nodes.map core := by
    refine List.ext_getElem (by simpa using h1) (fun i hi1 hi2 => ?_)
    rw [List.length_map] at hi1 hi2
    have := h i hi1
    simpa [List.getD_eq_getElem?_getD, hi1, hi2] using this
  simp [sameX, h0, this]
theorem eqL_len {l m : List Int} (h : ¬ l.length = m.length) : decide (l = m) = false := decide_eq_false (fun e => h (by rw [e]))
theorem eqL_at {l m : List Int} {j : Nat} (h : ¬ l.getD j default = m.getD j default) : decide (l = m) = false := decide_eq_false (fun e => h (by rw [e]))
theorem eqL_all {l m : List Int} (h1 : l.length = m.length) (h : ∀ i, i < l.length → l.getD i default = m.getD i default) : decide (l = m) = true := by
  refine decide_eq_true (List.ext_getElem h1 (fun i hi1 hi2 => ?_))
  have := h i hi1
  simpa [List.getD_eq_getElem?_getD, hi1, hi2] using this
theorem nx_eq {α : Type} {f g : Nat → α} {i : Nat} (h : ∀ k, k < i → f k = g k) (h2 : f i = g i) : ∀ k, k < i + 1 → f k = g k := fun k hk => by
  by_cases e : k = i
  · subst e; exact h2
  · exact h k (by omega)
end Go.Bp
/- Bp6. -/
set_option linter.unusedVariables false
set_option linter.unusedSectionVars false
set_option linter.unusedSimpArgs false
set_option maxRecDepth 20000
namespace Go.Bp
/-! ### one node's kids, step by step -/
def gS (g : Nat → List Nd → List Nd) : List Int → List Nd × List Int → List Nd × List Int
  | [], s => s
  | k :: kk, s => gS g kk (g k.toNat s.1, s.2 ++ [((g k.toNat s.1).length : Int) - 1])
theorem growK_gS (g : Nat → List Nd → List Nd) (mk : Nd → List Int → Nd) (n : Nd) (ks : List Int) (out : List Nd) (a : List Int) : growK g mk n ks out a = (gS g ks (out, a)).1 ++ [mk n (gS g ks (out, a)).2] := by
  induction ks generalizing out a with
  | nil => rfl
  | cons k kk ih => simp only [growK, gS, ih]
theorem gS_snoc (g : Nat → List Nd → List Nd) (ks : List Int) (k : Int) (s : List Nd × List Int) : gS g (ks ++ [k]) s = (g k.toNat (gS g ks s).1, (gS g ks s).2 ++ [((g k.toNat (gS g ks s).1).length : Int) - 1]) := by
  induction ks generalizing s with
  | nil => rfl
  | cons y ks ih => simp only [List.cons_append, gS, ih]
theorem take_snoc {l : List Int} {q : Nat} (h : q < l.length) : l.take (q + 1) = l.take q ++ [l.getD q default] := by
  rw [List.take_add_one]; simp [List.getD_eq_getElem?_getD, h]
theorem gS_le {g : Nat → List Nd → List Nd} (hg : ∀ i o, o.length ≤ (g i o).length) (ks : List Int) (s : List Nd × List Int) : s.1.length ≤ (gS g ks s).1.length := by
  induction ks generalizing s with
  | nil => exact Nat.le_refl _
  | cons k kk ih => exact Nat.le_trans (hg k.toNat s.1) (ih (g k.toNat s.1, s.2 ++ [((g k.toNat s.1).length : Int) - 1]))
theorem gS_app (g : Nat → List Nd → List Nd) (a b : List Int) (s : List Nd × List Int) : gS g (a ++ b) s = gS g b (gS g a s) := by
  induction a generalizing s with
  | nil => rfl
  | cons y ks ih => simp only [List.cons_append, gS, ih]
theorem gS_take_le {g : Nat → List Nd → List Nd} (hg : ∀ i o, o.length ≤ (g i o).length) (ks : List Int) (q : Nat) (s : List Nd × List Int) : (gS g (ks.take q) s).1.length ≤ (gS g ks s).1.length := by
  have h : gS g ks s = gS g (ks.drop q) (gS g (ks.take q) s) := by rw [← gS_app, List.take_append_drop]
  rw [h]; exact gS_le hg _ _
theorem gS_len2 (g : Nat → List Nd → List Nd) (ks : List Int) (s : List Nd × List Int) : (gS g ks s).2.length = s.2.length + ks.length := by
  induction ks generalizing s with
  | nil => simp [gS]
  | cons k kk ih => simp only [gS, ih]; simp; omega
theorem growG_s (mk : Nd → List Int → Nd) (sub : List Nd → Nd → Option (List Nd)) (nodes : List Nd) (f i : Nat) (out : List Nd) (h : sub out (nodes.getD i default) = none) :
    growG mk sub nodes (f + 1) i out = (gS (growG mk sub nodes f) (nodes.getD i default).k (out, [])).1 ++ [mk (nodes.getD i default) (gS (growG mk sub nodes f) (nodes.getD i default).k (out, [])).2] := by
  rw [growG, h, growK_gS]
theorem growG_sub (mk : Nd → List Int → Nd) (sub : List Nd → Nd → Option (List Nd)) (nodes : List Nd) (f i : Nat) (out o : List Nd) (h : sub out (nodes.getD i default) = some o) : growG mk sub nodes (f + 1) i out = o := by
  rw [growG, h]
theorem growG_le (mk : Nd → List Int → Nd) (sub : List Nd → Nd → Option (List Nd)) (nodes : List Nd) (hs : ∀ o n o', sub o n = some o' → o.length ≤ o'.length) (f i : Nat) (out : List Nd) : out.length ≤ (growG mk sub nodes f i out).length := by
  induction f generalizing i out with
  | zero => exact Nat.le_refl _
  | succ f ih =>
    cases h : sub out (nodes.getD i default) with
    | some o => rw [growG_sub _ _ _ _ _ _ _ h]; exact hs _ _ _ h
    | none =>
      rw [growG_s _ _ _ _ _ _ h, List.length_append]
      have := gS_le (g := growG mk sub nodes f) (fun i o => ih i o) (nodes.getD i default).k (out, [])
      dsimp only at this; omega
theorem growG_pos (mk : Nd → List Int → Nd) (sub : List Nd → Nd → Option (List Nd)) (nodes : List Nd) (hs : ∀ o n o', sub o n = some o' → 0 < o'.length) (f i : Nat) (out : List Nd) : 0 < (growG mk sub nodes (f + 1) i out).length := by
  cases h : sub out (nodes.getD i default) with
  | some o => rw [growG_sub _ _ _ _ _ _ _ h]; exact hs _ _ _ h
  | none => rw [growG_s _ _ _ _ _ _ h, List.length_append]; simp
/-- No servers are replaced; those of a list are. -/
def sub0 : List Nd → Nd → Option (List Nd) := fun _ _ => none
def grow0 (mk : Nd → List Int → Nd) (x : Ex) (out : List Nd) : List Nd := growG mk sub0 x.nodes (x.root.toNat + 1) x.root.toNat out
def subL (mk : Nd → List Int → Nd) (l : List Ex) (out : List Nd) (n : Nd) : Option (List Nd) := if n.kind = 1 ∧ n.server < l.length then some (grow0 mk (l.getD n.server.toNat default) out) else none
def growX (mk : Nd → List Int → Nd) (x : Ex) (l : List Ex) : List Nd := growG mk (subL mk l) x.nodes (x.root.toNat + 1) x.root.toNat []
theorem sub0_le : ∀ o n o', sub0 o n = some o' → o.length ≤ o'.length := fun _ _ _ h => by cases h
theorem sub0_pos : ∀ o n o', sub0 o n = some o' → 0 < o'.length := fun _ _ _ h => by cases h
theorem subL_some {mk : Nd → List Int → Nd} {l : List Ex} {out : List Nd} {n : Nd} (h : n.kind = 1) (h2 : n.server < l.length) : subL mk l out n = some (grow0 mk (l.getD n.server.toNat default) out) := by unfold subL; rw [if_pos ⟨h, h2⟩]
theorem subL_none {mk : Nd → List Int → Nd} {l : List Ex} {out : List Nd} {n : Nd} (h : ¬ (n.kind = 1 ∧ n.server < l.length)) : subL mk l out n = none := by unfold subL; rw [if_neg h]
theorem subL_le {mk : Nd → List Int → Nd} {l : List Ex} : ∀ o n o', subL mk l o n = some o' → o.length ≤ o'.length := fun o n o' h => by
  unfold subL at h; split at h
  · rw [← Option.some.inj h]; exact growG_le _ _ _ sub0_le _ _ _
  · cases h
theorem subL_pos {mk : Nd → List Int → Nd} {l : List Ex} : ∀ o n o', subL mk l o n = some o' → 0 < o'.length := fun o n o' h => by
  unfold subL at h; split at h
  · rw [← Option.some.inj h]; exact growG_pos _ _ _ sub0_pos _ _ _
  · cases h
theorem subL_nil {mk : Nd → List Int → Nd} {n : Nd} {out : List Nd} (h : 0 ≤ n.server) : subL mk [] out n = none := subL_none (by simp; omega)
/-! ### numbers of nodes, cut -/
def foldS (c : Int) (acc : List Int) (s : Int) : List Int → Int
  | [] => s
  | y :: ys => foldS c acc (min c (s + acc.getD y.toNat 0)) ys
def szN (c : Int) (of : Int → Int) (acc : List Int) (n : Nd) : Int := foldS c acc (if n.kind = 1 then of n.server else 1) n.k
def szA (c : Int) (of : Int → Int) (acc : List Int) : List Nd → List Int
  | [] => acc
  | n :: ns => szA c of (acc ++ [szN c of acc n]) ns
theorem foldS_snoc (c : Int) (acc : List Int) (s : Int) (ks : List Int) (k : Int) : foldS c acc s (ks ++ [k]) = min c (foldS c acc s ks + acc.getD k.toNat 0) := by
  induction ks generalizing s with
  | nil => rfl
  | cons y ks ih => simp only [List.cons_append, foldS, ih]
theorem foldS_s {c : Int} {acc : List Int} {s : Int} {ks : List Int} {q : Nat} (h : q < ks.length) : foldS c acc s (ks.take (q + 1)) = min c (foldS c acc s (ks.take q) + acc.getD (ks.getD q default).toNat 0) := by
  rw [take_snoc h, foldS_snoc]
theorem szA_snoc (c : Int) (of : Int → Int) (acc : List Int) (ns : List Nd) (n : Nd) : szA c of acc (ns ++ [n]) = szA c of acc ns ++ [szN c of (szA c of acc ns) n] := by
  induction ns generalizing acc with
  | nil => rfl
  | cons m ns ih => simp only [List.cons_append, szA, ih]
theorem szA_s {c : Int} {of : Int → Int} {ns : List Nd} {q : Nat} (h : q < ns.length) : szA c of [] (ns.take (q + 1)) = szA c of [] (ns.take q) ++ [szN c of (szA c of [] (ns.take q)) (ns.getD q default)] := by
  have e : ns.take (q + 1) = ns.take q ++ [ns.getD q default] := by rw [List.take_add_one]; simp [List.getD_eq_getElem?_getD, h]
  rw [e, szA_snoc]
theorem szA_len (c : Int) (of : Int → Int) (acc : List Int) (ns : List Nd) : (szA c of acc ns).length = acc.length + ns.length := by
  induction ns generalizing acc with
  | nil => simp [szA]
  | cons n ns ih => rw [szA, ih]; simp; omega
def size (c : Int) (of : Int → Int) (x : Ex) : Int := (szA c of [] (x.nodes.take (x.root.toNat + 1))).getD x.root.toNat 0
/-- All sizes lie between 1 and the cut. -/
theorem foldS_range {c : Int} {acc : List Int} (hc : 1 ≤ c) (ha : ∀ y ∈ acc, 0 ≤ y) {s : Int} (hs : 0 ≤ s ∧ s ≤ c) (ks : List Int) : s ≤ foldS c acc s ks ∧ foldS c acc s ks ≤ c := by
  induction ks generalizing s with
  | nil => exact ⟨Int.le_refl _, hs.2⟩
  | cons k ks ih =>
    have h0 : 0 ≤ acc.getD k.toNat 0 := by
      rw [List.getD_eq_getElem?_getD]
      rcases Nat.lt_or_ge k.toNat acc.length with h | h
      · rw [List.getElem?_eq_getElem h]; exact ha _ (List.getElem_mem h)
      · rw [List.getElem?_eq_none h]; exact Int.le_refl _
    have := ih (s := min c (s + acc.getD k.toNat 0)) ⟨by omega, by omega⟩
    simp only [foldS]; omega
theorem szN_range {c : Int} {of : Int → Int} {acc : List Int} {n : Nd} (hc : 1 ≤ c) (ha : ∀ y ∈ acc, 0 ≤ y) (ho : n.kind = 1 → 1 ≤ of n.server ∧ of n.server ≤ c) : 1 ≤ szN c of acc n ∧ szN c of acc n ≤ c := by
  unfold szN
  by_cases h : n.kind = 1
  · rw [if_pos h]
    have := foldS_range hc ha (s := of n.server) (by have := ho h; omega) n.k
    have := ho h; omega
  · rw [if_neg h]
    have := foldS_range hc ha (s := 1) (by omega) n.k
    omega
theorem szA_range {c : Int} {of : Int → Int} (hc : 1 ≤ c) (ns : List Nd) (ho : ∀ n ∈ ns, n.kind = 1 → 1 ≤ of n.server ∧ of n.server ≤ c) (acc : List Int) (ha : ∀ y ∈ acc, 1 ≤ y ∧ y ≤ c) : ∀ y ∈ szA c of acc ns, 1 ≤ y ∧ y ≤ c := by
  induction ns generalizing acc with
  | nil => exact ha
  | cons n ns ih =>
    refine ih (fun m hm => ho m (by simp [hm])) _ (fun y hy => ?_)
    rcases List.mem_append.1 hy with hy | hy
    · exact ha y hy
    · rw [List.mem_singleton.1 hy]
      exact szN_range hc (fun y hy => by have := ha y hy; omega) (ho n (by simp))
/-! ### the table of sizes as it is filled -/
def s0 (of : Int → Int) (n : Nd) : Int := if n.kind = 1 then of n.server else 1
structure InO (N : Nat) (c : Int) (of : Int → Int) (ns : List Nd) (i : Nat) (A : List Int) : Prop where
  len : A.length = N
  tk : A.take i = szA c of [] (ns.take i)
structure InI (N : Nat) (c : Int) (of : Int → Int) (ns : List Nd) (i q : Nat) (A : List Int) : Prop where
  len : A.length = N
  tk : A.take i = szA c of [] (ns.take i)
  at' : A.getD i default = foldS c (szA c of [] (ns.take i)) (s0 of (ns.getD i default)) ((ns.getD i default).k.take q)
theorem take_set_self {l : List Int} {i : Nat} {v : Int} : (l.set i v).take i = l.take i := by
  rw [List.take_set, List.set_eq_of_length_le (by simp; omega)]
theorem getD_set_self {l : List Int} {i : Nat} {v d : Int} (h : i < l.length) : (l.set i v).getD i d = v := by simp [List.getD_eq_getElem?_getD, h]
variable {N : Nat} {c : Int} {of : Int → Int} {ns : List Nd} {i q : Nat} {A : List Int}
theorem InO.start (h : InO N c of ns i A) (hi : i < N) {v : Int} (hv : v = s0 of (ns.getD i default)) : InI N c of ns i 0 (A.set i v) :=
  ⟨by simp [h.len], by rw [take_set_self]; exact h.tk, by rw [getD_set_self (by rw [h.len]; exact hi), hv]; rfl⟩
theorem InI.tk_at (h : InI N c of ns i q A) {k : Nat} (hk : k < i) : A.getD k default = (szA c of [] (ns.take i)).getD k 0 := by
  rw [← h.tk]; simp [List.getD_eq_getElem?_getD, List.getElem?_take, hk]
theorem InI.step (h : InI N c of ns i q A) (hi : i < N) (hq : q < (ns.getD i default).k.length) (hk : ((ns.getD i default).k.getD q default).toNat < i) {v : Int} (hv : v = min c (A.getD i default + A.getD ((ns.getD i default).k.getD q default).toNat default)) : InI N c of ns i (q + 1) (A.set i v) := by
  refine ⟨by simp [h.len], by rw [take_set_self]; exact h.tk, ?_⟩
  rw [getD_set_self (by rw [h.len]; exact hi), hv, foldS_s hq, h.at', h.tk_at hk]
theorem InI.done (h : InI N c of ns i q A) (hi : i < ns.length) (hN : i < N) (hq : q = (ns.getD i default).k.length) : InO N c of ns (i + 1) A := by
  refine ⟨h.len, ?_⟩
  rw [szA_s hi, ← h.tk]
  have e : A.take (i + 1) = A.take i ++ [A.getD i default] := take_snoc (by rw [h.len]; exact hN)
  rw [e, h.at', hq, List.take_length, h.tk]; rfl
theorem InI.rng (h : InI N c of ns i q A) (hc : 1 ≤ c) (ho : ∀ n ∈ ns, n.kind = 1 → 1 ≤ of n.server ∧ of n.server ≤ c) (hi : i < ns.length) : (1 ≤ A.getD i default ∧ A.getD i default ≤ c) ∧ ∀ k, k < i → 1 ≤ A.getD k default ∧ A.getD k default ≤ c := by
  have hr := szA_range (c := c) (of := of) hc (ns.take i) (fun n hn => ho n (List.mem_of_mem_take hn)) [] (by simp)
  refine ⟨?_, fun k hk => ?_⟩
  · rw [h.at']
    have hm : ns.getD i default ∈ ns := by rw [List.getD_eq_getElem?_getD, List.getElem?_eq_getElem hi, Option.getD_some]; exact List.getElem_mem hi
    have h0 : 1 ≤ s0 of (ns.getD i default) ∧ s0 of (ns.getD i default) ≤ c := by
      unfold s0; split
      · rename_i h1; exact ho _ hm h1
      · omega
    have := foldS_range hc (fun y hy => by have := hr y hy; omega) (s := s0 of (ns.getD i default)) (by omega) ((ns.getD i default).k.take q)
    omega
  · rw [h.tk_at hk]
    have hl : (szA c of [] (ns.take i)).length = i := by rw [szA_len]; simp; omega
    rw [List.getD_eq_getElem?_getD, List.getElem?_eq_getElem (by omega), Option.getD_some]
    exact hr _ (List.getElem_mem _)
theorem InO.at' (h : InO N c of ns i A) {k : Nat} (hk : k < i) : A.getD k default = (szA c of [] (ns.take i)).getD k 0 := by
  rw [← h.tk]; simp [List.getD_eq_getElem?_getD, List.getElem?_take, hk]
end Go.Bp
/- Bp7. -/
set_option linter.unusedVariables false
set_option linter.unusedSectionVars false
set_option linter.unusedSimpArgs false
set_option maxRecDepth 20000
namespace Go.Bp
variable {mk : Nd → List Int → Nd} {sub : List Nd → Nd → Option (List Nd)} {nodes : List Nd} {c : Int} {of : Int → Int} {f i : Nat} {out : List Nd}
/-- A table of sizes: what it says of the places below i. -/
def Tab (mk : Nd → List Int → Nd) (sub : List Nd → Nd → Option (List Nd)) (nodes : List Nd) (c : Int) (S : List Int) (i : Nat) : Prop :=
  ∀ j, j < i → ∀ f, j < f → ∀ out : List Nd, 1 ≤ ((growG mk sub nodes f j out).length : Int) - out.length ∧ S.getD j 0 = min c (((growG mk sub nodes f j out).length : Int) - out.length)
theorem gS_tab {S : List Int} (hc : 1 ≤ c) (hT : Tab mk sub nodes c S i) (hf : i ≤ f) (ks : List Int) (hk : ∀ k ∈ ks, 0 ≤ k ∧ k < i) (s : List Nd × List Int) (v : Int) (d : Int) (hd : 1 ≤ d) (hv : v = min c d) :
    foldS c S v ks = min c (d + (((gS (growG mk sub nodes f) ks s).1.length : Int) - s.1.length)) := by
  induction ks generalizing s v d with
  | nil => simp only [foldS, gS]; omega
  | cons k ks ih =>
    have h := hk k (by simp)
    obtain ⟨h1, h2⟩ := hT k.toNat (by omega) f (by omega) s.1
    simp only [foldS, gS]
    rw [ih (fun y hy => hk y (by simp [hy])) (growG mk sub nodes f k.toNat s.1, s.2 ++ [((growG mk sub nodes f k.toNat s.1).length : Int) - 1]) _ (d + (((growG mk sub nodes f k.toNat s.1).length : Int) - s.1.length)) (by omega) (by rw [h2, hv]; omega)]
    dsimp only
    congr 1; omega
/-- What stands for a server, and what is written for it. -/
structure SubOk (sub : List Nd → Nd → Option (List Nd)) (of : Int → Int) (c : Int) (n : Nd) : Prop where
  some' : ∀ out o, sub out n = some o → n.kind = 1 ∧ 1 ≤ ((o.length : Int) - out.length) ∧ of n.server = min c ((o.length : Int) - out.length)
  none' : ∀ out, sub out n = none → n.kind = 1 → of n.server = 1
theorem Tab.step {S : List Int} (hc : 1 ≤ c) (hT : Tab mk sub nodes c S i) (hs : SubOk sub of c (nodes.getD i default)) (hk : ∀ k ∈ (nodes.getD i default).k, 0 ≤ k ∧ k < i) (hleaf : (nodes.getD i default).kind = 1 → (nodes.getD i default).k = [])
    (hS : S.length = i) : Tab mk sub nodes c (S ++ [szN c of S (nodes.getD i default)]) (i + 1) := by
  intro j hj f hf out
  rcases Nat.lt_or_eq_of_le (Nat.le_of_lt_succ hj) with h | h
  · have := hT j h f hf out
    rw [List.getD_eq_getElem?_getD, List.getElem?_append_left (by omega), ← List.getD_eq_getElem?_getD]; exact this
  · subst h
    rw [List.getD_eq_getElem?_getD, List.getElem?_append_right (by omega), hS, Nat.sub_self]
    show _ ∧ szN c of S (nodes.getD j default) = _
    obtain ⟨f, rfl⟩ : ∃ p, f = p + 1 := ⟨f - 1, by omega⟩
    cases hsu : sub out (nodes.getD j default) with
    | some o =>
      rw [growG_sub _ _ _ _ _ _ _ hsu]
      obtain ⟨h1, h2, h3⟩ := hs.some' _ _ hsu
      refine ⟨h2, ?_⟩
      unfold szN
      rw [hleaf h1, if_pos h1]; exact h3
    | none =>
      rw [growG_s _ _ _ _ _ _ hsu, List.length_append]
      have e0 : (if (nodes.getD j default).kind = 1 then of (nodes.getD j default).server else 1) = 1 := by
        split
        · rename_i h1; exact hs.none' _ hsu h1
        · rfl
      have h1 := gS_tab (mk := mk) (sub := sub) (nodes := nodes) (f := f) hc hT (by omega) (nodes.getD j default).k hk (out, []) 1 1 (by omega) (by omega)
      unfold szN
      rw [e0, h1]
      dsimp only
      have hle : out.length ≤ (gS (growG mk sub nodes f) (nodes.getD j default).k (out, [])).1.length := by
        have main : ∀ (ks : List Int) (s : List Nd × List Int), (∀ k ∈ ks, 0 ≤ k ∧ k < j) → s.1.length ≤ (gS (growG mk sub nodes f) ks s).1.length := by
          intro ks
          induction ks with
          | nil => intro s _; exact Nat.le_refl _
          | cons k ks ih =>
            intro s hks
            have hk0 := hks k (by simp)
            have h3 := (hT k.toNat (by omega) f (by omega) s.1).1
            have h4 := ih (growG mk sub nodes f k.toNat s.1, s.2 ++ [((growG mk sub nodes f k.toNat s.1).length : Int) - 1]) (fun y hy => hks y (by simp [hy]))
            simp only [gS]; dsimp only at h4; omega
        exact main _ (out, []) hk
      simp only [List.length_singleton]; omega
theorem Tab.all (hc : 1 ≤ c) (hs : ∀ j, j < nodes.length → SubOk sub of c (nodes.getD j default)) (hk : ∀ j, j < nodes.length → ∀ k ∈ (nodes.getD j default).k, 0 ≤ k ∧ k < j)
    (hleaf : ∀ j, j < nodes.length → (nodes.getD j default).kind = 1 → (nodes.getD j default).k = []) : ∀ i, i ≤ nodes.length → Tab mk sub nodes c (szA c of [] (nodes.take i)) i := by
  intro i
  induction i with
  | zero => intro _ j hj; omega
  | succ i ih =>
    intro hi
    rw [szA_s (by omega)]
    exact (ih (by omega)).step hc (hs i (by omega)) (hk i (by omega)) (hleaf i (by omega)) (by rw [szA_len, List.length_take]; simp; omega)
theorem XOk.ks {x : Ex} (h : XOk x) : ∀ j, j < x.nodes.length → ∀ k ∈ (x.nodes.getD j default).k, 0 ≤ k ∧ k < j := fun j hj k hk => (h.node j hj).ks k hk
theorem XOk.leaf {x : Ex} (h : XOk x) : ∀ j, j < x.nodes.length → (x.nodes.getD j default).kind = 1 → (x.nodes.getD j default).k = [] := fun j hj hk => ((h.node j hj).leaf hk).2.2
/-- The table of all nodes and that of the nodes up to the root agree at the root. -/
theorem size_all {x : Ex} (h : XOk x) : (szA c of [] x.nodes).getD x.root.toNat 0 = size c of x := by
  unfold size
  have main : ∀ (a b : List Nd) (acc : List Int) (r : Nat), r < acc.length + a.length → (szA c of acc (a ++ b)).getD r 0 = (szA c of acc a).getD r 0 := by
    intro a b acc r hr
    have app : ∀ (a b : List Nd) (acc : List Int), szA c of acc (a ++ b) = szA c of (szA c of acc a) b := by
      intro a b
      induction a with
      | nil => intro acc; rfl
      | cons n a ih => intro acc; simp only [List.cons_append, szA, ih]
    rw [app]
    have pre : ∀ (b : List Nd) (acc : List Int), ∃ l, szA c of acc b = acc ++ l := by
      intro b
      induction b with
      | nil => intro acc; exact ⟨[], by simp [szA]⟩
      | cons n b ih => intro acc; obtain ⟨l, hl⟩ := ih (acc ++ [szN c of acc n]); exact ⟨szN c of acc n :: l, by rw [szA, hl]; simp⟩
    obtain ⟨l, hl⟩ := pre b (szA c of acc a)
    rw [hl, List.getD_eq_getElem?_getD, List.getElem?_append_left (by rw [szA_len]; omega), List.getD_eq_getElem?_getD]
  have e := main (x.nodes.take (x.root.toNat + 1)) (x.nodes.drop (x.root.toNat + 1)) [] x.root.toNat (by have := h.root; simp; omega)
  rw [List.take_append_drop] at e
  exact e
theorem size_grow {x : Ex} (h : XOk x) (hc : 1 ≤ c) (hs : ∀ j, j < x.nodes.length → SubOk sub of c (x.nodes.getD j default)) (out : List Nd) :
    1 ≤ ((growG mk sub x.nodes (x.root.toNat + 1) x.root.toNat out).length : Int) - out.length ∧ size c of x = min c (((growG mk sub x.nodes (x.root.toNat + 1) x.root.toNat out).length : Int) - out.length) := by
  have hT := Tab.all (mk := mk) hc hs h.ks h.leaf x.nodes.length (Nat.le_refl _)
  rw [List.take_length] at hT
  have := hT x.root.toNat (by have := h.root; omega) (x.root.toNat + 1) (by omega) out
  rw [size_all h] at this
  exact this
end Go.Bp
/- Bp8. -/
set_option linter.unusedVariables false
set_option linter.unusedSectionVars false
set_option linter.unusedSimpArgs false
set_option maxRecDepth 20000
namespace Go.Bp
variable {ws : List Nat} {i j m b n : Nat}
def off (ws : List Nat) (j : Nat) : Nat := (ws.take j).sum
def wd (ws : List Nat) (j : Nat) : Nat := ws.getD j 0
def rowX (ws : List Nat) (j : Nat) : List Ex := servs (upTo (off ws j) (wd ws j))
def lowX (ws : List Nat) (i m : Nat) : List Ex := (List.range m).map fun t => oneX (rowX ws (i + t))
def partX (ws : List Nat) (i m : Nat) : List Ex := allX (rowX ws i) :: lowX ws (i + 1) m
def kidX (ws : List Nat) (j : Nat) : List Ex := (List.range j).map fun i => allX (partX ws i (ws.length - (i + 1)))
theorem off_0 : off ws 0 = 0 := by simp [off]
theorem off_s (h : j < ws.length) : off ws (j + 1) = off ws j + wd ws j := by
  unfold off wd
  rw [List.take_add_one, List.sum_append, List.getD_eq_getElem?_getD, List.getElem?_eq_getElem h]; simp
theorem off_cons (a : Nat) : off (a :: ws) (j + 1) = a + off ws j := by simp [off]
theorem wd_cons (a : Nat) : wd (a :: ws) (j + 1) = wd ws j := by simp [wd]
theorem row_cons (a b : Nat) : servs (upTo ((b + off (a :: ws) (j + 1) : Nat) : Int) (wd (a :: ws) (j + 1))) = servs (upTo ((b + a + off ws j : Nat) : Int) (wd ws j)) := by
  rw [off_cons, wd_cons, Nat.add_assoc]
theorem below_eq (b : Nat) : belowK b ws = (List.range ws.length).map fun t => oneX (servs (upTo ((b + off ws t : Nat) : Int) (wd ws t))) := by
  induction ws generalizing b with
  | nil => rfl
  | cons a ws ih =>
    rw [belowK, ih, List.length_cons, List.range_succ_eq_map, List.map_cons, List.map_map]
    congr 1
    refine List.map_congr_left (fun t _ => ?_)
    show _ = oneX (servs (upTo ((b + off (a :: ws) (t + 1) : Nat) : Int) (wd (a :: ws) (t + 1))))
    rw [row_cons]
def kidB (b : Nat) (ws : List Nat) (i : Nat) : Ex :=
  allX (allX (servs (upTo ((b + off ws i : Nat) : Int) (wd ws i))) :: (List.range (ws.length - (i + 1))).map fun t => oneX (servs (upTo ((b + off ws (i + 1 + t) : Nat) : Int) (wd ws (i + 1 + t)))))
theorem wall_eqB (b : Nat) : wallK b ws = (List.range ws.length).map (kidB b ws) := by
  induction ws generalizing b with
  | nil => rfl
  | cons a ws ih =>
    rw [wallK, ih, List.length_cons, List.range_succ_eq_map, List.map_cons, List.map_map, below_eq]
    congr 1
    · unfold kidB
      congr 2
      rw [List.length_cons, show ws.length + 1 - (0 + 1) = ws.length by omega]
      refine List.map_congr_left (fun t _ => ?_)
      rw [show 0 + 1 + t = t + 1 by omega, row_cons]
    · refine List.map_congr_left (fun t _ => ?_)
      show kidB (b + a) ws t = kidB b (a :: ws) (t + 1)
      unfold kidB
      rw [row_cons, List.length_cons, show ws.length + 1 - (t + 1 + 1) = ws.length - (t + 1) by omega]
      congr 2
      refine List.map_congr_left (fun u _ => ?_)
      rw [show t + 1 + 1 + u = (t + 1 + u) + 1 by omega, row_cons]
theorem wall_kid : wallK 0 ws = kidX ws ws.length := by
  rw [wall_eqB]
  unfold kidX
  refine List.map_congr_left (fun i _ => ?_)
  unfold kidB partX lowX rowX
  simp only [Nat.zero_add]
theorem lowX_z (h : m = 0) : lowX ws i m = [] := by subst h; rfl
theorem lowX_s : lowX ws i (m + 1) = lowX ws i m ++ [oneX (rowX ws (i + m))] := by simp [lowX, List.range_succ]
theorem lowX_len : (lowX ws i m).length = m := by simp [lowX]
theorem partX_z : partX ws i 0 = [allX (rowX ws i)] := rfl
theorem partX_s : partX ws i (m + 1) = partX ws i m ++ [oneX (rowX ws (i + 1 + m))] := by unfold partX; rw [lowX_s]; rfl
theorem partX_len : (partX ws i m).length = m + 1 := by simp [partX, lowX_len]
theorem kidX_z (h : j = 0) : kidX ws j = [] := by subst h; rfl
theorem kidX_s : kidX ws (j + 1) = kidX ws j ++ [allX (partX ws j (ws.length - (j + 1)))] := by simp [kidX, List.range_succ]
theorem kidX_len : (kidX ws j).length = j := by simp [kidX]
theorem rowX_len : (rowX ws j).length = wd ws j := by simp [rowX, servs_len, upTo_ln]
theorem all_thr {kids : List Ex} {K : Nat} (h : kids.length = K) : thr K kids true [] = allX kids := by subst h; rfl
theorem one_thr {kids : List Ex} : thr 1 kids true [] = oneX kids := rfl
theorem XF_rowA {b : Nat} (h : wd ws j ≤ 12) : XF 13 (allX (rowX ws j)) := XF_thr (b := 1) (c := 12) (fun x hx => by
  obtain ⟨i, _, rfl⟩ := List.mem_map.1 hx; exact XF_srv i) (by rw [rowX_len]; exact h) (by omega) (fun _ => rfl) (by simp)
theorem XF_rowO {b : Nat} (h : wd ws j ≤ 12) : XF 13 (oneX (rowX ws j)) := XF_thr (b := 1) (c := 12) (fun x hx => by
  obtain ⟨i, _, rfl⟩ := List.mem_map.1 hx; exact XF_srv i) (by rw [rowX_len]; exact h) (by omega) (fun _ => rfl) (by simp)
theorem XF_part (h : ∀ j, wd ws j ≤ 12) : ∀ x ∈ partX ws i m, XF 13 x := by
  intro x hx
  rcases List.mem_cons.1 hx with rfl | hx
  · exact XF_rowA (b := 0) (h _)
  · obtain ⟨t, _, rfl⟩ := List.mem_map.1 hx; exact XF_rowO (b := 0) (h _)
theorem XF_kid (h : ∀ j, wd ws j ≤ 12) (hl : ws.length ≤ 12) : ∀ x ∈ kidX ws j, XF (12 * 13 + 1) x := by
  intro x hx
  obtain ⟨i, hi, rfl⟩ := List.mem_map.1 hx
  exact XF_thr (b := 13) (c := 12) (XF_part h) (by rw [partX_len]; have := List.mem_range.1 hi; rcases Nat.eq_zero_or_pos (ws.length - (i + 1)) with e | e <;> omega) (by omega) (fun _ => rfl) (by simp)
theorem sum_le_get (h : j < ws.length) : off ws j + wd ws j ≤ ws.sum := by
  rw [← off_s h]
  unfold off
  conv => rhs; rw [← List.take_append_drop (j + 1) ws, List.sum_append]
  omega
theorem wd_out (h : ws.length ≤ j) : wd ws j = 0 := by simp [wd, List.getD_eq_getElem?_getD, List.getElem?_eq_none h]
theorem wd_le (h : ws.sum ≤ 12) : ∀ j, wd ws j ≤ 12 := fun j => by
  rcases Nat.lt_or_ge j ws.length with h1 | h1
  · have := sum_le_get h1; omega
  · rw [wd_out h1]; omega
theorem len_sum (h : ∀ w ∈ ws, 1 ≤ w) : ws.length ≤ ws.sum := by
  induction ws with
  | nil => simp
  | cons a ws ih =>
    have := ih (fun w hw => h w (by simp [hw]))
    have := h a (by simp)
    simp; omega
end Go.Bp
/- Bp9. -/
set_option linter.unusedVariables false
set_option linter.unusedSectionVars false
set_option linter.unusedSimpArgs false
set_option maxRecDepth 20000
namespace Go.Bp
variable {x : Ex} {l : List Ex} {t : Nd} {i j n : Nat} {a b : Int}
/-- A node whose server is moved. -/
def mv (b : Int) (n : Nd) : Nd := if n.kind = 1 then { n with server := n.server + b } else n
def mvX (b : Int) (x : Ex) : Ex := ⟨false, x.nodes.map (mv b), x.root⟩
/-- The nodes as they are moved one after the other. -/
def mvN (b : Int) (x : Ex) (i : Nat) : List Nd := (x.nodes.take i).map (mv b) ++ x.nodes.drop i
def mvT (b : Int) (x : Ex) (i : Nat) : List Nd := (x.nodes.take i).map (mv b)
theorem mvN_0 : mvN b x 0 = x.nodes := by simp [mvN]
theorem mvN_len (h : i ≤ x.nodes.length) : (mvN b x i).length = x.nodes.length := by simp [mvN]; omega
theorem mvN_all : mvN b x x.nodes.length = (mvX b x).nodes := by simp [mvN, mvX]
theorem mvN_at (h : i < x.nodes.length) : (mvN b x i).getD i default = x.nodes.getD i default := by
  unfold mvN
  rw [List.getD_eq_getElem?_getD, List.getElem?_append_right (by simp; omega)]
  simp [List.getD_eq_getElem?_getD, Nat.min_eq_left (Nat.le_of_lt h)]
theorem mvN_s (h : i < x.nodes.length) : mvN b x (i + 1) = (mvN b x i).set i (mv b (x.nodes.getD i default)) := by
  unfold mvN
  have e1 : ((x.nodes.take i).map (mv b)).length = i := by simp; omega
  have e2 : x.nodes.drop i = x.nodes.getD i default :: x.nodes.drop (i + 1) := by
    rw [List.drop_eq_getElem_cons h]; simp [List.getD_eq_getElem?_getD, h]
  have e3 : x.nodes.take (i + 1) = x.nodes.take i ++ [x.nodes.getD i default] := by rw [List.take_add_one]; simp [List.getD_eq_getElem?_getD, h]
  rw [e2, List.set_append_right _ _ (by omega), e1, Nat.sub_self, List.set_cons_zero, e3, List.map_append, List.append_assoc]; rfl
theorem mvN_k (h : i < x.nodes.length) (hk : ¬ (x.nodes.getD i default).kind = 1) : mvN b x (i + 1) = mvN b x i := by
  rw [mvN_s h]
  have e : mv b (x.nodes.getD i default) = (mvN b x i).getD i default := by rw [mvN_at h]; unfold mv; rw [if_neg hk]
  rw [e]
  have hl : i < (mvN b x i).length := by rw [mvN_len (Nat.le_of_lt h)]; exact h
  rw [List.getD_eq_getElem?_getD, List.getElem?_eq_getElem hl, Option.getD_some, List.set_getElem_self]
theorem mvT_z (h : i = 0) : mvT b x i = [] := by subst h; rfl
theorem mvT_s (h : i < x.nodes.length) : mvT b x (i + 1) = mvT b x i ++ [mv b (x.nodes.getD i default)] := by
  unfold mvT; rw [List.take_add_one, List.map_append]; simp [List.getD_eq_getElem?_getD, h]
theorem mvT_len (h : i ≤ x.nodes.length) : (mvT b x i).length = i := by simp [mvT]; omega
theorem mvT_all : mvT b x x.nodes.length = (mvX b x).nodes := by simp [mvT, mvX]
theorem mvX_len : (mvX b x).nodes.length = x.nodes.length := by simp [mvX]
theorem mv_1 (h : t.kind = 1) : mv b t = ⟨t.kind, t.server + b, t.need, t.wz, t.w, t.kz, t.k⟩ := by unfold mv; rw [if_pos h]
theorem mv_2 (h : ¬ t.kind = 1) : mv b t = ⟨t.kind, t.server, t.need, t.wz, t.w, t.kz, t.k⟩ := by unfold mv; rw [if_neg h]
/-- The number of servers. -/
def szF (acc : Int) : List Nd → Int
  | [] => acc
  | n :: ns => szF (if n.kind = 1 then max acc (n.server + 1) else acc) ns
def szJ (x : Ex) (i : Nat) : Int := szF 0 (x.nodes.take i)
def szE (x : Ex) : Int := szF 0 x.nodes
theorem szF_snoc (acc : Int) (ns : List Nd) (n : Nd) : szF acc (ns ++ [n]) = if n.kind = 1 then max (szF acc ns) (n.server + 1) else szF acc ns := by
  induction ns generalizing acc with
  | nil => rfl
  | cons m ns ih => simp only [List.cons_append, szF, ih]
theorem szJ_0 : szJ x 0 = 0 := rfl
theorem szJ_all : szJ x x.nodes.length = szE x := by simp [szJ, szE]
theorem szJ_e (h : i < x.nodes.length) : szJ x (i + 1) = if (x.nodes.getD i default).kind = 1 then max (szJ x i) ((x.nodes.getD i default).server + 1) else szJ x i := by
  unfold szJ
  have e3 : x.nodes.take (i + 1) = x.nodes.take i ++ [x.nodes.getD i default] := by rw [List.take_add_one]; simp [List.getD_eq_getElem?_getD, h]
  rw [e3, szF_snoc]
theorem szJ_1 (h : i < x.nodes.length) (ht : x.nodes.getD i default = t) (hk : t.kind = 1) : szJ x (i + 1) = max (szJ x i) (t.server + 1) := by rw [szJ_e h, ht, if_pos hk]
theorem szJ_2 (h : i < x.nodes.length) (ht : x.nodes.getD i default = t) (hk : ¬ t.kind = 1) : szJ x (i + 1) = szJ x i := by rw [szJ_e h, ht, if_neg hk]
theorem szJ_rng (hx : XOk x) (h : i ≤ x.nodes.length) : 0 ≤ szJ x i ∧ szJ x i ≤ 12 := by
  induction i with
  | zero => simp [szJ, szF]
  | succ i ih =>
    have := ih (by omega)
    have := (hx.node i (by omega)).srv
    rw [szJ_e (by omega)]; split <;> omega
theorem szE_rng (hx : XOk x) : 0 ≤ szE x ∧ szE x ≤ 12 := by rw [← szJ_all]; exact szJ_rng hx (Nat.le_refl _)
/-- A server that is too great. -/
def tooS (L : Nat) (n : Nd) : Bool := decide (n.kind = 1) && decide ((L : Int) ≤ n.server)
theorem szF_gt (L : Nat) (ns : List Nd) (acc : Int) : (L : Int) < szF acc ns ↔ (L : Int) < acc ∨ ns.any (tooS L) = true := by
  induction ns generalizing acc with
  | nil => simp [szF]
  | cons n ns ih =>
    rw [szF, ih, List.any_cons, Bool.or_eq_true]
    by_cases h : n.kind = 1
    · rw [if_pos h]
      have e : tooS L n = decide ((L : Int) ≤ n.server) := by simp [tooS, h]
      rw [e, decide_eq_true_eq, ← or_assoc]
      constructor
      · rintro (h | h)
        · left; omega
        · right; exact h
      · rintro (h | h)
        · left; omega
        · right; exact h
    · rw [if_neg h]
      have e : tooS L n = false := by simp [tooS, h]
      rw [e]; simp
theorem szE_gt (L : Nat) : (L : Int) < szE x ↔ x.nodes.any (tooS L) = true := by
  unfold szE; rw [szF_gt]; simp; omega
def baseJ (l : List Ex) : Nat → Int
  | 0 => 0
  | j + 1 => baseJ l j + szE (l.getD j default)
def movJ (l : List Ex) : Nat → List Ex
  | 0 => []
  | j + 1 => movJ l j ++ [mvX (baseJ l j) (l.getD j default)]
theorem baseJ_0 : baseJ l 0 = 0 := rfl
theorem baseJ_s : baseJ l (j + 1) = baseJ l j + szE (l.getD j default) := rfl
theorem baseJ_rng (h : ∀ i, i < j → 0 ≤ szE (l.getD i default) ∧ szE (l.getD i default) ≤ 12) : 0 ≤ baseJ l j ∧ baseJ l j ≤ 12 * j := by
  induction j with
  | zero => simp [baseJ]
  | succ j ih =>
    have := ih (fun i hi => h i (by omega))
    have := h j (by omega)
    rw [baseJ_s]; omega
theorem movJ_z (h : j = 0) : movJ l j = [] := by subst h; rfl
theorem movJ_s : movJ l (j + 1) = movJ l j ++ [mvX (baseJ l j) (l.getD j default)] := rfl
theorem movJ_len : (movJ l j).length = j := by
  induction j with
  | zero => rfl
  | succ j ih => rw [movJ_s]; simp [ih]
theorem movJ_mem {y : Ex} (h : y ∈ movJ l j) : ∃ i, i < j ∧ y = mvX (baseJ l i) (l.getD i default) := by
  induction j with
  | zero => simp [movJ] at h
  | succ j ih =>
    rw [movJ_s] at h
    rcases List.mem_append.1 h with h | h
    · obtain ⟨i, hi, e⟩ := ih h; exact ⟨i, by omega, e⟩
    · exact ⟨j, by omega, List.mem_singleton.1 h⟩
/-! ### the cores of written trees -/
def Sim (a b : List Nd) : Prop := a.map core = b.map core
theorem Sim.len {a b : List Nd} (h : Sim a b) : a.length = b.length := by have := congrArg List.length h; simpa using this
theorem gS_sim {g g' : Nat → List Nd → List Nd} (hg : ∀ i o o', Sim o o' → Sim (g i o) (g' i o')) (ks : List Int) (s s' : List Nd × List Int) (h1 : Sim s.1 s'.1) (h2 : s.2 = s'.2) : Sim (gS g ks s).1 (gS g' ks s').1 ∧ (gS g ks s).2 = (gS g' ks s').2 := by
  induction ks generalizing s s' with
  | nil => exact ⟨h1, h2⟩
  | cons k kk ih =>
    have h := hg k.toNat _ _ h1
    exact ih (g k.toNat s.1, _) (g' k.toNat s'.1, _) h (by dsimp only; rw [h2, h.len])
theorem growG_sim {mk mk' : Nd → List Int → Nd} {sub sub' : List Nd → Nd → Option (List Nd)} (hm : ∀ n ks, core (mk n ks) = core (mk' n ks))
    (hs : ∀ o o' n, Sim o o' → (sub o n = none ↔ sub' o' n = none) ∧ ∀ u u', sub o n = some u → sub' o' n = some u' → Sim u u') (nodes : List Nd) (f i : Nat) (o o' : List Nd) (h : Sim o o') :
    Sim (growG mk sub nodes f i o) (growG mk' sub' nodes f i o') := by
  induction f generalizing i o o' with
  | zero => exact h
  | succ f ih =>
    have hh := hs o o' (nodes.getD i default) h
    cases e : sub o (nodes.getD i default) with
    | none =>
      have e' := hh.1.1 e
      rw [growG_s _ _ _ _ _ _ e, growG_s _ _ _ _ _ _ e']
      have hg := gS_sim (g := growG mk sub nodes f) (g' := growG mk' sub' nodes f) (fun i o o' h => ih i o o' h) (nodes.getD i default).k (o, []) (o', []) h rfl
      unfold Sim
      rw [List.map_append, List.map_append, hg.1, hg.2]
      simp [hm]
    | some u =>
      cases e' : sub' o' (nodes.getD i default) with
      | none => rw [hh.1.2 e'] at e; cases e
      | some u' =>
        rw [growG_sub _ _ _ _ _ _ _ e, growG_sub _ _ _ _ _ _ _ e']
        exact hh.2 _ _ e e'
theorem growX_sim {mk mk' : Nd → List Int → Nd} (hm : ∀ n ks, core (mk n ks) = core (mk' n ks)) (x : Ex) (l : List Ex) : Sim (growX mk x l) (growX mk' x l) := by
  refine growG_sim hm (fun o o' n h => ⟨?_, fun u u' h1 h2 => ?_⟩) _ _ _ _ _ rfl
  · unfold subL; split <;> simp
  · unfold subL at h1 h2
    split at h1
    · rename_i hc
      rw [if_pos hc] at h2
      rw [← Option.some.inj h1, ← Option.some.inj h2]
      exact growG_sim hm (fun o o' n _ => ⟨by simp [sub0], fun u u' h1 _ => by simp [sub0] at h1⟩) _ _ _ _ _ h
    · cases h1
end Go.Bp
/- Bp10. -/
set_option linter.unusedVariables false
set_option linter.unusedSectionVars false
set_option linter.unusedSimpArgs false
set_option maxRecDepth 20000
namespace Go.Bp
variable {h : Int → Bool} {x : Ex} {t : Nd} {i j q n N : Nat} {A : List Bool} {s : Nat}
/-- Few kids at each node. -/
def KS (x : Ex) : Prop := ∀ j, j < x.nodes.length → (x.nodes.getD j default).k.length ≤ 1000
structure TabO (h : Int → Bool) (x : Ex) (i : Nat) (A : List Bool) : Prop where
  len : A.length = x.nodes.length
  tk : A.take i = runA h [] (x.nodes.take i)
theorem TabO.zero : TabO h x 0 (List.replicate x.nodes.length false) := ⟨by simp, by simp [runA]⟩
theorem TabO.step (hA : TabO h x i A) (hi : i < x.nodes.length) {v : Bool} (hv : v = evN h (A.take i) (x.nodes.getD i default)) : TabO h x (i + 1) (A.set i v) := by
  refine ⟨by simp [hA.len], ?_⟩
  have e3 : x.nodes.take (i + 1) = x.nodes.take i ++ [x.nodes.getD i default] := by rw [List.take_add_one]; simp [List.getD_eq_getElem?_getD, hi]
  have e4 : (A.set i v).take (i + 1) = A.take i ++ [v] := by
    rw [List.take_add_one, List.take_set, List.set_eq_of_length_le (by simp; omega)]
    simp [hA.len, hi]
  rw [e3, runA_app, ← hA.tk, e4, hv]; rfl
theorem TabO.root (hA : TabO h x x.nodes.length A) : A.getD x.root.toNat default = hold h x := by
  have := hA.tk
  rw [List.take_length, List.take_of_length_le (by rw [hA.len]; exact Nat.le_refl _)] at this
  unfold hold; rw [← this]; rfl
/-- The weight of the satisfied ones among the first kids. -/
def gotQ (t : Nd) (A : List Bool) (q : Nat) : Int := gotA t A 0 (t.k.take q)
theorem gotA_snoc (k : Nat) (ks : List Int) (y : Int) : gotA t A k (ks ++ [y]) = gotA t A k ks + (if A.getD y.toNat false then wt t (k + ks.length) else 0) := by
  induction ks generalizing k with
  | nil => simp [gotA]
  | cons a ks ih => simp only [List.cons_append, gotA, ih, List.length_cons, show k + 1 + ks.length = k + (ks.length + 1) by omega]; omega
theorem gotQ_0 : gotQ t A 0 = 0 := rfl
theorem gotQ_e (hq : q < t.k.length) : gotQ t A (q + 1) = gotQ t A q + (if A.getD (t.k.getD q default).toNat false then wt t q else 0) := by
  unfold gotQ
  have e : t.k.take (q + 1) = t.k.take q ++ [t.k.getD q default] := by rw [List.take_add_one]; simp [List.getD_eq_getElem?_getD, hq]
  rw [e, gotA_snoc]
  have : 0 + (t.k.take q).length = q := by simp; omega
  rw [this]
theorem gotQ_t (hq : q < t.k.length) (hb : A.getD (t.k.getD q default).toNat default = true) : gotQ t A (q + 1) = gotQ t A q + wt t q := by
  rw [gotQ_e hq, if_pos (show A.getD (t.k.getD q default).toNat false = true from hb)]
theorem gotQ_f (hq : q < t.k.length) (hb : ¬ A.getD (t.k.getD q default).toNat default = true) : gotQ t A (q + 1) = gotQ t A q := by
  rw [gotQ_e hq, if_neg (show ¬ A.getD (t.k.getD q default).toNat false = true from hb), Int.add_zero]
theorem wt_rng (hn : NOk t i) (hq : q < t.k.length) : 1 ≤ wt t q ∧ wt t q ≤ 1000 := by
  unfold wt
  split
  · omega
  · rename_i hw
    have h1 := hn.wl (fun e => hw (by rw [e]; rfl))
    have : t.w.getD q 0 ∈ t.w := by rw [List.getD_eq_getElem?_getD, List.getElem?_eq_getElem (by omega), Option.getD_some]; exact List.getElem_mem _
    exact hn.ws _ this
theorem gotQ_rng (hn : NOk t i) (hq : q ≤ t.k.length) : 0 ≤ gotQ t A q ∧ gotQ t A q ≤ 1000 * q := by
  induction q with
  | zero => simp [gotQ_0]
  | succ q ih =>
    have := ih (by omega)
    have := wt_rng hn (q := q) (by omega)
    rw [gotQ_e (by omega)]; split <;> omega
theorem gotA_take (k : Nat) (ks : List Int) (hk : ∀ y ∈ ks, 0 ≤ y ∧ y < i) : gotA t (A.take i) k ks = gotA t A k ks := by
  induction ks generalizing k with
  | nil => rfl
  | cons a ks ih =>
    have ha := hk a (by simp)
    have e : (A.take i).getD a.toNat false = A.getD a.toNat false := by simp [List.getD_eq_getElem?_getD, List.getElem?_take, show a.toNat < i by omega]
    simp only [gotA, e, ih _ (fun y hy => hk y (by simp [hy]))]
theorem ev_1 (hn : NOk t i) (hk : t.kind = 1) : evN h (A.take i) t = h t.server := by simp [evN, hk]
theorem ev_2 (hn : NOk t i) (hk : ¬ t.kind = 1) : evN h (A.take i) t = decide (t.need ≤ gotQ t A t.k.length) := by
  have h2 : t.kind = 2 := by rcases hn.kind with h | h; exact absurd h hk; exact h
  unfold evN gotQ
  rw [List.take_length, gotA_take 0 t.k hn.ks]; simp [h2]
/-! ### rows -/
theorem full_t {b : Nat} (h1 : ∀ i : Nat, b ≤ i → i < b + n → h i = true) : full h b n = true := by
  unfold full upTo
  rw [List.all_eq_true]
  intro v hv
  obtain ⟨y, hy, rfl⟩ := List.mem_map.1 hv
  obtain ⟨k, hk, rfl⟩ := List.mem_map.1 hy
  have := List.mem_range.1 hk
  have := h1 (b + k) (by omega) (by omega)
  simpa using this
theorem full_f {b : Nat} (h1 : b ≤ i) (h2 : i < b + n) (h3 : h i = false) : full h b n = false := by
  cases e : full h b n with
  | false => rfl
  | true => rw [full_at e h1 h2] at h3; cases h3
theorem some_f {b : Nat} (h1 : ∀ i : Nat, b ≤ i → i < b + n → h i = false) : some' h b n = false := by
  cases e : some' h b n with
  | false => rfl
  | true => obtain ⟨i, h2, h3, h4⟩ := some_at e; rw [h1 i h2 h3] at h4; cases h4
theorem some_t {b : Nat} (h1 : b ≤ i) (h2 : i < b + n) (h3 : h i = true) : some' h b n = true := by
  unfold some' upTo
  rw [List.any_eq_true]
  refine ⟨true, List.mem_map.2 ⟨(i : Nat), List.mem_map.2 ⟨i - b, List.mem_range.2 (by omega), by omega⟩, h3⟩, rfl⟩
/-! ### members -/
def bitI (s : Nat) (i : Int) : Bool := s.testBit i.toNat
theorem bitI_n : bitI s (i : Nat) = s.testBit i := by simp [bitI]
def mem (s : Nat) : Nat → List Int
  | 0 => []
  | j + 1 => if s.testBit j then mem s j ++ [(j : Int)] else mem s j
def memL (s j : Nat) : Nat := (mem s j).length
theorem mem_t (hb : s.testBit j = true) : mem s (j + 1) = mem s j ++ [(j : Int)] := by rw [mem, if_pos hb]
theorem mem_f (hb : s.testBit j = false) : mem s (j + 1) = mem s j := by rw [mem, if_neg (by rw [hb]; simp)]
theorem memL_0 : memL s 0 = 0 := rfl
theorem memL_t (hb : s.testBit j = true) : memL s (j + 1) = memL s j + 1 := by unfold memL; rw [mem_t hb]; simp
theorem memL_f (hb : s.testBit j = false) : memL s (j + 1) = memL s j := by unfold memL; rw [mem_f hb]
theorem mem_len : (mem s j).length = memL s j := rfl
theorem mem_z (h0 : memL s j = 0) : mem s j = [] := List.eq_nil_of_length_eq_zero h0
theorem memL_le : memL s j ≤ j := by
  induction j with
  | zero => exact Nat.le_refl _
  | succ j ih =>
    cases hb : s.testBit j with
    | true => rw [memL_t hb]; omega
    | false => rw [memL_f hb]; omega
theorem tk_mem : (mem s j).take (memL s j) = mem s j := List.take_of_length_le (Nat.le_refl _)
theorem memL_cnt : memL s j = cnt ((upTo 0 j).map (bitI s)) := by
  induction j with
  | zero => rfl
  | succ j ih =>
    rw [upTo_s, List.map_append]
    have e : cnt ((upTo 0 j).map (bitI s) ++ [(0 + (j : Int))].map (bitI s)) = cnt ((upTo 0 j).map (bitI s)) + (if s.testBit j then 1 else 0) := by
      unfold cnt
      rw [List.filter_append, List.length_append]
      simp only [List.map_cons, List.map_nil, Int.zero_add, bitI_n]
      cases s.testBit j <;> simp
    rw [e, ← ih]
    cases hb : s.testBit j with
    | true => rw [memL_t hb]; simp
    | false => rw [memL_f hb]; simp
end Go.Bp
/- Bp11. -/
set_option linter.unusedVariables false
set_option linter.unusedSectionVars false
set_option linter.unusedSimpArgs false
set_option maxRecDepth 20000
namespace Go.Bp
variable {x : Ex} {kids : List Ex} {need : Int} {w : List Int} {wz : Bool} {acc L : List Nd} {i j n c : Nat}
def AllOk (L : List Nd) : Prop := ∀ i, i < L.length → NOk (L.getD i default) i
theorem NOk.sh' {t : Nd} (h : NOk t j) : NOk (sh n t) (n + j) := by
  refine ⟨h.kind, h.srv, fun hk => ?_, h.zero, h.need, h.ws, fun hw => ?_, fun k hk => ?_⟩
  · have := h.leaf hk
    refine ⟨this.1, this.2.1, ?_⟩
    show t.k.map _ = []
    rw [this.2.2]; rfl
  · have := h.wl hw
    show t.w.length = (t.k.map _).length
    rw [this, List.length_map]
  · obtain ⟨u, hu, rfl⟩ := List.mem_map.1 hk
    have := h.ks u hu
    omega
theorem AllOk.app (h1 : AllOk acc) (h2 : AllOk L) : AllOk (acc ++ L.map (sh acc.length)) := by
  intro i hi
  rw [List.length_append, List.length_map] at hi
  rcases Nat.lt_or_ge i acc.length with h | h
  · rw [List.getD_eq_getElem?_getD, List.getElem?_append_left h, ← List.getD_eq_getElem?_getD]; exact h1 i h
  · have hj : i - acc.length < L.length := by omega
    have := (h2 (i - acc.length) hj).sh' (n := acc.length)
    rw [show acc.length + (i - acc.length) = i by omega] at this
    rw [List.getD_eq_getElem?_getD, List.getElem?_append_right h]
    rw [List.getD_eq_getElem?_getD, List.getElem?_eq_getElem hj, Option.getD_some] at this
    simp [hj]; exact this
theorem nodesA_ok (ha : AllOk acc) (hk : ∀ x ∈ kids, AllOk x.nodes) : AllOk (nodesA acc kids) := by
  induction kids generalizing acc with
  | nil => exact ha
  | cons x xs ih => exact ih (ha.app (hk x (by simp))) (fun y hy => hk y (by simp [hy]))
theorem rootsA_lt' (b : Nat) (xs : List Ex) (acc : List Nd) (hx : ∀ x ∈ xs, Good x) : ∀ y ∈ rootsA acc.length xs, 0 ≤ y ∧ y < (nodesA acc xs).length := by
  induction xs generalizing acc with
  | nil => simp [rootsA]
  | cons x xs ih =>
    have g := hx x (by simp)
    have e : acc.length + x.nodes.length = (acc ++ x.nodes.map (sh acc.length)).length := by simp
    intro y hy
    rcases List.mem_cons.1 hy with rfl | hy
    · have h0 : 0 < x.nodes.length := List.length_pos_iff.2 g.ne
      have h1 := g.root
      have h2 := nodesA_len (acc ++ x.nodes.map (sh acc.length)) xs
      rw [nodesA, h2, ← e]; omega
    · rw [e] at hy
      exact ih _ (fun z hz => hx z (by simp [hz])) y hy
structure VOk (x : Ex) : Prop where
  good : Good x
  all : AllOk x.nodes
theorem VOk_srv {a : Int} (h0 : 0 ≤ a) (h : a < 12) : VOk (srv a) := by
  refine ⟨good_srv a, fun i hi => ?_⟩
  simp [srv] at hi
  subst hi
  exact ⟨.inl rfl, ⟨h0, h⟩, fun _ => ⟨rfl, rfl, rfl⟩, (fun hk => absurd (show (1 : Int) = 2 from hk) (by decide)), ⟨Int.le_refl _, show (0 : Int) ≤ 100000 by decide⟩, (fun w hw => by cases hw), (fun h => absurd rfl h), (fun k hk => by cases hk)⟩
theorem VOk_thr (h : ∀ x ∈ kids, VOk x) (hn : 0 ≤ need ∧ need ≤ 100000) : VOk (thr need kids true []) := by
  refine ⟨good_thr (fun x hx => (h x hx).good), fun i hi => ?_⟩
  have hA := nodesA_ok (acc := []) (kids := kids) (fun i hi => by simp at hi) (fun x hx => (h x hx).all)
  have hl : (thr need kids true []).nodes.length = (nodesA [] kids).length + 1 := by simp [thr]
  rw [hl] at hi
  show NOk ((nodesA [] kids ++ [topN need true [] (rootsA 0 kids)]).getD i default) i
  rcases Nat.lt_or_eq_of_le (Nat.le_of_lt_succ hi) with h1 | h1
  · rw [List.getD_eq_getElem?_getD, List.getElem?_append_left h1, ← List.getD_eq_getElem?_getD]; exact hA i h1
  · subst h1
    rw [List.getD_eq_getElem?_getD, List.getElem?_append_right (Nat.le_refl _), Nat.sub_self]
    have hr := rootsA_lt' 0 kids [] (fun x hx => (h x hx).good)
    show NOk (topN need true [] (rootsA 0 kids)) _
    exact ⟨.inr rfl, ⟨Int.le_refl _, show (0 : Int) < 12 by decide⟩, (fun hk => absurd (show (2 : Int) = 1 from hk) (by decide)), (fun _ => rfl), hn, (fun w hw => by cases hw), (fun h => absurd rfl h), (fun y hy => hr y hy)⟩
theorem VOk.ok (h : VOk x) (hl : x.nodes.length ≤ 60) : XOk x := by
  have hp : 0 < x.nodes.length := List.length_pos_iff.2 h.good.ne
  have := h.good.root
  exact ⟨hp, hl, h.all, by omega⟩
theorem XF.ks {b : Nat} (h : XF b x) : KS x := fun j hj => by
  have : x.nodes.getD j default ∈ x.nodes := by rw [List.getD_eq_getElem?_getD, List.getElem?_eq_getElem hj, Option.getD_some]; exact List.getElem_mem hj
  exact (h.nd _ this).kl
theorem VOk_servs {l : List Int} (h : ∀ a ∈ l, 0 ≤ a ∧ a < 12) : ∀ x ∈ servs l, VOk x := fun x hx => by
  obtain ⟨a, ha, rfl⟩ := List.mem_map.1 hx
  exact VOk_srv (h a ha).1 (h a ha).2
theorem VOk_all (h : ∀ x ∈ kids, VOk x) (hl : kids.length ≤ 1000) : VOk (allX kids) := VOk_thr h (by omega)
theorem VOk_one (h : ∀ x ∈ kids, VOk x) : VOk (oneX kids) := VOk_thr h (by omega)
theorem upTo_rng {a : Nat} (h : a + n ≤ 12) : ∀ y ∈ upTo a n, 0 ≤ y ∧ y < 12 := fun y hy => by
  obtain ⟨k, hk, rfl⟩ := List.mem_map.1 hy
  have := List.mem_range.1 hk; omega
/-! ### grids -/
theorem mul_in {r rows cols : Nat} (hr : r < rows) (h : rows * cols ≤ 12) : r * cols + cols ≤ 12 := by
  have := Nat.mul_le_mul_right cols (show r + 1 ≤ rows by omega)
  rw [Nat.add_mul] at this; omega
theorem VOk_gridR {rows cols : Nat} (h : rows * cols ≤ 12) (hc : cols ≤ 12) : VOk (gridR rows cols) := VOk_one (fun x hx => by
  obtain ⟨l, hl, rfl⟩ := List.mem_map.1 hx
  obtain ⟨r, hr, rfl⟩ := List.mem_map.1 hl
  exact VOk_all (VOk_servs (upTo_rng (mul_in (List.mem_range.1 hr) h))) (by rw [servs_len, upTo_ln]; omega))
theorem VOk_gridW {rows cols : Nat} (h : rows * cols ≤ 12) (hr : rows ≤ 12) : VOk (gridW rows cols) := VOk_all (fun x hx => by
  obtain ⟨l, hl, rfl⟩ := List.mem_map.1 hx
  obtain ⟨r, hr, rfl⟩ := List.mem_map.1 hl
  exact VOk_one (VOk_servs (upTo_rng (mul_in (List.mem_range.1 hr) h)))) (by simp [rowsG]; omega)
theorem thr_len (need : Int) (kids : List Ex) (wz : Bool) (w : List Int) : (thr need kids wz w).nodes.length = (kids.map fun x => x.nodes.length).sum + 1 := by
  simp [thr, nodesA_len]
theorem servs_sum (l : List Int) : ((servs l).map fun x => x.nodes.length).sum = l.length := by
  induction l with
  | nil => rfl
  | cons a l ih =>
    show (srv a).nodes.length + ((servs l).map fun x => x.nodes.length).sum = _
    rw [ih, List.length_cons, show (srv a).nodes.length = 1 from rfl]; omega
theorem sum_map_const {α : Type} (l : List α) (f : α → Nat) (c : Nat) (h : ∀ a ∈ l, f a = c) : (l.map f).sum = l.length * c := by
  induction l with
  | nil => simp
  | cons a l ih =>
    rw [List.map_cons, List.sum_cons, h a (by simp), ih (fun b hb => h b (by simp [hb])), List.length_cons, Nat.add_mul]; omega
theorem gridR_len {rows cols : Nat} : (gridR rows cols).nodes.length = rows * (cols + 1) + 1 := by
  unfold gridR oneX
  rw [thr_len, List.map_map, sum_map_const (rowsG rows cols) _ (cols + 1) (fun l hl => by
    obtain ⟨r, _, rfl⟩ := List.mem_map.1 hl
    show (allX _).nodes.length = _
    unfold allX
    rw [thr_len, servs_sum, upTo_ln])]
  simp [rowsG]
theorem gridW_len {rows cols : Nat} : (gridW rows cols).nodes.length = rows * (cols + 1) + 1 := by
  unfold gridW allX
  rw [thr_len, List.map_map, sum_map_const (rowsG rows cols) _ (cols + 1) (fun l hl => by
    obtain ⟨r, _, rfl⟩ := List.mem_map.1 hl
    show (oneX _).nodes.length = _
    unfold oneX
    rw [thr_len, servs_sum, upTo_ln])]
  simp [rowsG]
theorem grid_few {rows cols : Nat} (h : rows * cols ≤ 12) (hr : rows ≤ 12) : rows * (cols + 1) + 1 ≤ 60 := by rw [Nat.mul_add]; omega
/-! ### majorities -/
theorem VOk_maj {need : Int} {n : Nat} (hn : n ≤ 12) (h : 0 ≤ need ∧ need ≤ 100000) : VOk (thr need (servs (upTo 0 n)) true []) := VOk_thr (VOk_servs (upTo_rng (a := 0) (by omega))) h
theorem maj_len {need : Int} {n : Nat} : (thr need (servs (upTo 0 n)) true []).nodes.length = n + 1 := by rw [thr_len, servs_sum, upTo_ln]
/-! ### walls -/
theorem VOk_below {b : Nat} {ws : List Nat} (h : b + ws.sum ≤ 12) : ∀ x ∈ belowK b ws, VOk x := by
  induction ws generalizing b with
  | nil => simp [belowK]
  | cons m ws ih =>
    intro x hx
    rw [List.sum_cons] at h
    rcases List.mem_cons.1 hx with rfl | hx
    · exact VOk_one (VOk_servs (upTo_rng (by omega)))
    · exact ih (b := b + m) (by omega) x hx
theorem below_len {b : Nat} {ws : List Nat} : (belowK b ws).length = ws.length := by
  induction ws generalizing b with
  | nil => rfl
  | cons m ws ih => rw [belowK, List.length_cons, ih, List.length_cons]
theorem VOk_wallK {b : Nat} {ws : List Nat} (h : b + ws.sum ≤ 12) (hl : ws.length ≤ 900) : ∀ x ∈ wallK b ws, VOk x := by
  induction ws generalizing b with
  | nil => simp [wallK]
  | cons m ws ih =>
    intro x hx
    rw [List.sum_cons] at h
    rw [List.length_cons] at hl
    rcases List.mem_cons.1 hx with rfl | hx
    · refine VOk_all (fun y hy => ?_) (by rw [List.length_cons, below_len]; omega)
      rcases List.mem_cons.1 hy with rfl | hy
      · exact VOk_all (VOk_servs (upTo_rng (by omega))) (by rw [servs_len, upTo_ln]; omega)
      · exact VOk_below (b := b + m) (by omega) y hy
    · exact ih (b := b + m) (by omega) (by omega) x hx
theorem VOk_wall {ws : List Nat} (h : ws.sum ≤ 12) (hl : ws.length ≤ 900) : VOk (wallX ws) := VOk_one (VOk_wallK (b := 0) (by omega) hl)
theorem VOk_tree1 : VOk tree1 := VOk_srv (by decide) (by decide)
theorem VOk_node3 {a b c : Ex} (ha : VOk a) (hb : VOk b) (hc : VOk c) : VOk (node3 a b c) := VOk_thr (fun x hx => by
  rcases List.mem_cons.1 hx with rfl | hx
  · exact ha
  · rcases List.mem_cons.1 hx with rfl | hx
    · exact hb
    · rw [List.mem_singleton.1 hx]; exact hc) (by omega)
theorem VOk_tree2 : VOk tree2 := VOk_node3 (VOk_srv (by decide) (by decide)) (VOk_srv (by decide) (by decide)) (VOk_srv (by decide) (by decide))
theorem VOk_tree3 : VOk tree3 := VOk_node3 (VOk_srv (by decide) (by decide)) (VOk_node3 (VOk_srv (by decide) (by decide)) (VOk_srv (by decide) (by decide)) (VOk_srv (by decide) (by decide))) (VOk_node3 (VOk_srv (by decide) (by decide)) (VOk_srv (by decide) (by decide)) (VOk_srv (by decide) (by decide)))
end Go.Bp
