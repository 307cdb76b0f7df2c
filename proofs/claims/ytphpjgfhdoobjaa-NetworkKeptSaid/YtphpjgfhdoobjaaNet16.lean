/- The network: what holds of every network behind operations; the operations of the reference. No condition. -/
import Derived.Test.YtphpjgfhdoobjaaNet14
import Derived.Test.YtphpjgfhdoobjaaNet15
set_option linter.unusedVariables false
set_option linter.unusedSectionVars false
set_option linter.unusedSimpArgs false
set_option maxHeartbeats 1000000
set_option maxRecDepth 20000
namespace Go.Proofs.Ytphpjgfhdoobjaa
open Go Go.Sy
attribute [local irreducible] AO AL AC OpT ACall Ends DGo DRun Thn Blk Nxt
variable {n a b : Int} {i j k len : Nat} {z z2 : Bool} {m : Msg} {c : Bool} {s : NS} {o : OpN} {l : List Pk} {f : List (List Int × Bool)} {next : Int} {B : List Bool}

structure okS (n : Int) (s : NS) (k : Nat) : Prop where
  n18 : n ≤ 18
  len : s.l.length ≤ 400
  nx0 : 0 ≤ s.next
  nx1 : s.next ≤ k
  pk : ∀ t ∈ s.l, pty n t.fr = true ∧ pty n t.to = true ∧ t.m.fr = t.fr ∧ t.m.to = t.to ∧ 0 ≤ t.id ∧ t.id < s.next
  asc : asc s.l
  lB : s.B.length = 324
  lk : lkOk s.f s.B
  zp : s.zp = true → s.l = []
theorem ok_er {e : Int} (h : okS n s k) : okS n (erS s e).s (k + 1) := ⟨h.n18, h.len, h.nx0, by have := h.nx1; show s.next ≤ _; omega, h.pk, h.asc, h.lB, h.lk, h.zp⟩
theorem ok_rm {p : Pk} (h : okS n s k) (hi : i < s.l.length) : okS n (rmS s i p).s (k + 1) :=
  ⟨h.n18, by show (rm s.l i).length ≤ 400; rw [rm_len hi]; have := h.len; omega, h.nx0, by have := h.nx1; show s.next ≤ _; omega, fun t ht => h.pk t (rm_mem ht), rm_asc h.asc hi, h.lB, h.lk, fun hz => by
    have := h.zp hz; rw [this] at hi; simp at hi⟩
theorem ok_send (h : okS n s k) : okS n (sendS n s m).s (k + 1) := by
  unfold sendS
  split
  · exact ok_er h
  · rename_i hp
    rw [Bool.not_eq_false, Bool.and_eq_true] at hp
    split
    · exact ok_er h
    · rename_i hl
      have := h.nx1
      have h0 := h.nx0
      refine ⟨h.n18, ?_, ?_, ?_, fun t ht => ?_, asc_app h.asc (fun u hu => (h.pk u hu).2.2.2.2.2), h.lB, h.lk, fun hz => by cases hz⟩
      · show (s.l ++ [_]).length ≤ 400; simp; omega
      · show 0 ≤ s.next + 1; omega
      · show s.next + 1 ≤ ((k + 1 : Nat) : Int); omega
      · show _ ∧ _ ∧ _ ∧ _ ∧ _ ∧ t.id < s.next + 1
        rcases List.mem_append.1 ht with ht | ht
        · obtain ⟨a1, a2, a3, a4, a5, a6⟩ := h.pk t ht
          exact ⟨a1, a2, a3, a4, a5, by omega⟩
        · rw [List.mem_singleton] at ht; subst ht
          exact ⟨hp.1, hp.2, rfl, rfl, h0, by show s.next < _; omega⟩
theorem ok_step (h : okS n s k) : okS n (stepN n s o).s (k + 1) := by
  unfold stepN
  split
  · exact ok_send h
  split
  · unfold takeS
    split
    · exact ok_er h
    · rename_i h1
      split
      · exact ok_er h
      · exact ok_rm h (ix_lt (ix_or.resolve_left h1))
  split
  · unfold nextS
    split
    · exact ok_er h
    · split
      · exact ok_er h
      · rename_i h1; exact ok_rm h (ix_lt (ix_or.resolve_left h1))
  split
  · unfold dropS
    split
    · exact ok_er h
    · rename_i h1; exact ok_rm h (ix_lt (ix_or.resolve_left h1))
  split
  · unfold repS
    split
    · exact ok_er h
    · exact ok_send h
  · unfold blockS
    split
    · exact ⟨h.n18, h.len, h.nx0, by have := h.nx1; show s.next ≤ _; omega, h.pk, h.asc, by show (gridR _ _ _ _ _).length = 324; rw [gridr_len, h.lB], lk_block h.lB h.lk, h.zp⟩
    · exact ok_er h
theorem pty_nat (hn : n ≤ 18) (h : pty n a = true) : ∃ u : Nat, a = u ∧ u < 18 := by
  simp only [pty, Bool.and_eq_true, decide_eq_true_eq] at h
  exact ⟨a.toNat, by omega, by omega⟩
theorem ok_R {t : Pk} (h : okS n s k) (ht : t ∈ s.l) : okR t := by
  obtain ⟨h1, h2, _⟩ := h.pk t ht
  obtain ⟨u, e1, hu⟩ := pty_nat h.n18 h1
  obtain ⟨v, e2, hv⟩ := pty_nat h.n18 h2
  unfold okR; omega
theorem lkd_eq {t : Pk} (h : okS n s k) (ht : t ∈ s.l) : lkd s.B t = asB s.f [t.fr, t.to] := by
  obtain ⟨h1, h2, _⟩ := h.pk t ht
  obtain ⟨u, e1, hu⟩ := pty_nat h.n18 h1
  obtain ⟨v, e2, hv⟩ := pty_nat h.n18 h2
  unfold lkd
  rw [e1, e2, Int.toNat_natCast, Int.toNat_natCast]
  exact h.lk u v hu hv

/-! ### the reference -/
def rS (n : Int) (s : NS) : AV := rN n s.next s.zr s.l s.l.length s.B
theorem rs_rm {p : Pk} (h : i < s.l.length) : rN n s.next false (rm s.l i) (s.l.length - 1) s.B = rS n (rmS s i p).s := by
  show _ = rN n s.next false (rm s.l i) (rm s.l i).length s.B
  rw [rm_len h]
theorem rsendQ (h : okS n s k) (hk : k ≤ 1000000) : ACall Try.prog 20 [rS n s, .agg (mC m)] [] 0 (.tup [rS n (sendS n s m).s, .val (.int .i64 (sendS n s m).e)]) [] := by
  have hx := h.nx1
  unfold sendS
  split
  · rename_i hp
    cases hf : pty n m.fr with
    | false => exact rsend_a h.lB hf
    | true => rw [hf, Bool.true_and] at hp; exact rsend_b h.lB hf hp
  · rename_i hp
    rw [Bool.not_eq_false, Bool.and_eq_true] at hp
    split
    · rename_i h2; exact rsend_full h.lB hp.1 hp.2 h2
    · rename_i h2
      have := rsend_ok (z := s.zr) h.lB hp.1 hp.2 (Nat.lt_of_not_le h2) h.nx0 (by omega)
      rw [show s.l.length + 1 = (s.l ++ [(⟨s.next, m.fr, m.to, m⟩ : Pk)]).length by simp] at this
      exact this
theorem rtakeQ (h : okS n s k) : ACall Try.prog 36 [rS n s, .val (.int .i64 a)] [] 0 (.tup [rS n (takeS s a).s, .agg (pC (takeS s a).p), .val (.int .i64 (takeS s a).e)]) [] := by
  have hn : s.l.length ≤ 1000 := by have := h.len; omega
  unfold takeS
  split
  · rename_i h1; exact rtake_none h.lB hn h1
  · rename_i h1
    have h2 : at' s.l a = (atN s a : Nat) := ix_or.resolve_left h1
    have hm : atP s a ∈ s.l := mem_at (ix_lt h2)
    split
    · rename_i h3; exact rtake_shut h.lB hn h2 (ok_R h hm) ((lkd_eq h hm).trans h3)
    · rename_i h3
      have := rtake_ok (n := n) (next := s.next) (z := s.zr) h.lB hn h2 (ok_R h hm) ((lkd_eq h hm).trans (by simpa using h3))
      rw [rs_rm (p := atP s a) (ix_lt h2)] at this
      exact this
theorem rdropQ (h : okS n s k) : ACall Try.prog 38 [rS n s, .val (.int .i64 a)] [] 0 (.tup [rS n (dropS s a).s, .val (.int .i64 (dropS s a).e)]) [] := by
  have hn : s.l.length ≤ 1000 := by have := h.len; omega
  unfold dropS
  split
  · rename_i h1; exact rdrop_none h.lB hn h1
  · rename_i h1
    have h2 : at' s.l a = (atN s a : Nat) := ix_or.resolve_left h1
    have := rdrop_ok (n := n) (next := s.next) (z := s.zr) h.lB hn h2
    rw [rs_rm (p := zPk) (ix_lt h2)] at this
    exact this
theorem rrepQ (h : okS n s k) (hk : k ≤ 1000000) : ACall Try.prog 39 [rS n s, .val (.int .i64 a)] [] 0 (.tup [rS n (repS n s a).s, .val (.int .i64 (repS n s a).e)]) [] := by
  have hn : s.l.length ≤ 1000 := by have := h.len; omega
  have hx := h.nx1
  unfold repS
  split
  · rename_i h1; exact rrep_none h.lB hn h1
  · rename_i h1
    have h2 : at' s.l a = (atN s a : Nat) := ix_or.resolve_left h1
    have hm : atP s a ∈ s.l := mem_at (ix_lt h2)
    obtain ⟨p1, p2, p3, p4, _⟩ := h.pk _ hm
    have q1 : pty n (atP s a).m.fr = true := by rw [p3]; exact p1
    have q2 : pty n (atP s a).m.to = true := by rw [p4]; exact p2
    unfold sendS
    rw [if_neg (by rw [q1, q2]; decide)]
    split
    · rename_i h3; exact rrep_full h.lB hn h2 q1 q2 h3
    · rename_i h3
      have := rrep_ok (z := s.zr) h.lB (Nat.lt_of_not_le h3) h2 q1 q2 h.nx0 (by omega)
      rw [show s.l.length + 1 = (s.l ++ [(⟨s.next, (s.l.getD (atN s a) default).m.fr, (s.l.getD (atN s a) default).m.to, (s.l.getD (atN s a) default).m⟩ : Pk)]).length by simp] at this
      exact this
theorem rblockQ (h : okS n s k) (ha : 0 ≤ a ∧ a ≤ 65535) (hb : 0 ≤ b ∧ b ≤ 65535) : ACall Try.prog 40 [rS n s, .val (.int .u16 a), .val (.int .u16 b), .val (.bool c)] [] 0 (.tup [rS n (blockS n s a b c).s, .val (.int .i64 (blockS n s a b c).e)]) [] := by
  unfold blockS
  split
  · rename_i h1; exact rblock_ok h.lB ((fit_iff ha hb).1 h1)
  · rename_i h1; exact rblock_range h.lB (fun h2 => h1 ((fit_iff ha hb).2 h2))
theorem wt_all : wt l a l.length = l.filter fun p => decide (p.to = a) := by unfold wt; rw [List.take_length]
theorem lka_eq {t : Pk} (h : okS n s k) (ht : t ∈ s.l) (e : t.to = a) : lka s.B a t = asB s.f [t.fr, t.to] := by
  rw [← lkd_eq h ht]; unfold lka lkd; rw [e]
theorem rrecvQ (h : okS n s k) : ACall Try.prog 37 [rS n s, .val (.int .i64 a)] [] 0 (.tup [rS n (nextS n s a).s, .agg (pC (nextS n s a).p), .val (.int .i64 (nextS n s a).e)]) [] := by
  have hn : s.l.length ≤ 1000 := by have := h.len; omega
  have hit := hit_iff (p := fun t : Pk => decide (t.to = a)) (q := fun t : Pk => !asB s.f [t.fr, t.to]) s.l
  rw [← wt_all] at hit
  have hop : (fun t : Pk => decide (t.to = a) && !asB s.f [t.fr, t.to]) = opn s.f a := rfl
  rw [hop] at hit
  unfold nextS
  split
  · rename_i h1; exact rrecv_range h.lB h1
  · rename_i hp
    rw [Bool.not_eq_false] at hp
    split
    · rename_i h1
      refine rrecv_none h.lB hn hp h.n18 (fun t ht => ok_R h ht) (fun t ht => ?_)
      have := hit.1.1 h1 t ht
      rw [lka_eq h (wt_mem ht).1 (wt_mem ht).2]
      simpa using this
    · rename_i h1
      have h2 : ix (opn s.f a) s.l = (ixN s a : Nat) := ix_or.resolve_left h1
      obtain ⟨r, a1, a2, a3, a4⟩ := hit.2 _ h2
      have hil := ix_lt h2
      have hmr := wt_mem (mem_at a1)
      have hat : at' s.l ((wt s.l a s.l.length).getD r default).id = (ixN s a : Nat) := by rw [a2]; exact at_id h.asc hil
      have hb : lkd s.B (s.l.getD (ixN s a) default) = false := by
        rw [lkd_eq h (mem_at hil), ← a2]; simpa using a4
      have := rrecv_ok (n := n) (next := s.next) (z := s.zr) rfl h.lB hn hp h.n18 (fun t ht => ok_R h ht) a1 (fun q hq => by
        have hq2 := wt_mem (mem_at (show q < (wt s.l a s.l.length).length by omega))
        rw [lka_eq h hq2.1 hq2.2]
        simpa using a3 q hq) (by rw [lka_eq h hmr.1 hmr.2]; simpa using a4) hat hb
      rw [rs_rm (p := s.l.getD (ixN s a) default) hil] at this
      exact this
end Go.Proofs.Ytphpjgfhdoobjaa
