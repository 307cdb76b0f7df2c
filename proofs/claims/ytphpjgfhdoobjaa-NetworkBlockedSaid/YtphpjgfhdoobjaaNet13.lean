/- The network: what each operation does, told once; the operations of the program's side. No condition. -/
import Derived.Test.YtphpjgfhdoobjaaNet12
set_option linter.unusedVariables false
set_option linter.unusedSectionVars false
set_option linter.unusedSimpArgs false
set_option maxHeartbeats 1000000
set_option maxRecDepth 20000
namespace Go.Proofs.Ytphpjgfhdoobjaa
open Go Go.Sy
attribute [local irreducible] AO AL AC OpT ACall Ends DGo DRun Thn Blk Nxt
structure NS where
  next : Int
  l : List Pk
  f : List (List Int × Bool)
  B : List Bool
  zp : Bool
  zr : Bool
structure RS where
  e : Int
  p : Pk
  s : NS
variable {n a b : Int} {i j k len : Nat} {z z2 : Bool} {m : Msg} {c : Bool} {s : NS} {o : OpN}
def rmS (s : NS) (i : Nat) (p : Pk) : RS := ⟨0, p, { s with l := rm s.l i, zr := false }⟩
def erS (s : NS) (e : Int) : RS := ⟨e, zPk, s⟩
def sendS (n : Int) (s : NS) (m : Msg) : RS :=
  if (pty n m.fr && pty n m.to) = false then erS s 7 else if 400 ≤ s.l.length then erS s 3 else ⟨0, zPk, { s with next := s.next + 1, l := s.l ++ [⟨s.next, m.fr, m.to, m⟩], zp := false, zr := false }⟩
def atN (s : NS) (a : Int) : Nat := (at' s.l a).toNat
def atP (s : NS) (a : Int) : Pk := s.l.getD (atN s a) default
def takeS (s : NS) (a : Int) : RS := if at' s.l a = -1 then erS s 4 else if asB s.f [(atP s a).fr, (atP s a).to] = true then erS s 10 else rmS s (atN s a) (atP s a)
def ixN (s : NS) (a : Int) : Nat := (ix (opn s.f a) s.l).toNat
def nextS (n : Int) (s : NS) (a : Int) : RS := if pty n a = false then erS s 7 else if ix (opn s.f a) s.l = -1 then erS s 9 else rmS s (ixN s a) (s.l.getD (ixN s a) default)
def dropS (s : NS) (a : Int) : RS := if at' s.l a = -1 then erS s 4 else rmS s (atN s a) zPk
def repS (n : Int) (s : NS) (a : Int) : RS := if at' s.l a = -1 then erS s 4 else sendS n s (atP s a).m
open Classical in
noncomputable def blockS (n : Int) (s : NS) (a b : Int) (c : Bool) : RS := if fitB n a b 16 then ⟨0, zPk, { s with f := gridF a b c s.f 16, B := gridR c (ms a 16) (ms b 16) s.B (ms a 16).length }⟩ else erS s 7
noncomputable def stepN (n : Int) (s : NS) (o : OpN) : RS :=
  if o.kind % 7 = 0 then sendS n s (msgO o) else if o.kind % 7 = 1 then takeS s o.id else if o.kind % 7 = 2 then nextS n s o.to else if o.kind % 7 = 3 then dropS s o.id
  else if o.kind % 7 = 4 then repS n s o.id else blockS n s o.a o.b (decide (o.kind % 7 = 5))
theorem ix_or {α : Type} {p : α → Bool} {l : List α} : ix p l = -1 ∨ ix p l = ((ix p l).toNat : Nat) := by
  unfold ix
  cases l.findIdx? p with
  | none => exact .inl rfl
  | some i => exact .inr rfl
def nS (n : Int) (s : NS) : List AObj := [.cells [.val (.int .i64 n), .val (.int .i64 s.next), .sl 2 0 s.l.length 24, .mp 1] 80, .map true 2 (bV s.f), .cells (cR s.l) 41]
theorem ns_rm {p : Pk} (h : i < s.l.length) : n1x n s.next (rm s.l i) (s.l.length - 1) s.f = nS n (rmS s i p).s := by
  show _ = [AObj.cells [.val (.int .i64 n), .val (.int .i64 s.next), .sl 2 0 (rm s.l i).length 24, .mp 1] 80, .map true 2 (bV s.f), .cells (cR (rm s.l i)) 41]
  rw [rm_len h]; rfl
theorem sendQ (hn : s.l.length ≤ 1000) (h0 : 0 ≤ s.next) (h1 : s.next ≤ 1000000) : ACall Try.prog 12 [.pt 0 0, .agg (mC m)] (nS n s) 2 (.val (.int .i64 (sendS n s m).e)) (nS n (sendS n s m).s) := by
  unfold sendS
  split
  · rename_i h; exact (send_range h).le (by decide)
  · rename_i h
    rw [Bool.not_eq_false, Bool.and_eq_true] at h
    split
    · rename_i h2; exact (send_full h.1 h.2 h2 hn).le (by decide)
    · rename_i h2
      have := send_ok (f := s.f) h.1 h.2 (Nat.lt_of_not_le h2) h0 h1
      rw [← n1_x (by simp)] at this
      exact this
theorem takeQ (hn : s.l.length ≤ 1000) : ACall Try.prog 18 [.pt 0 0, .val (.int .i64 a)] (nS n s) 2 (.tup [.agg (pC (takeS s a).p), .val (.int .i64 (takeS s a).e)]) (nS n (takeS s a).s) := by
  unfold takeS
  split
  · rename_i h; exact (take_none hn h).le (by decide)
  · rename_i h
    have h2 : at' s.l a = (atN s a : Nat) := ix_or.resolve_left h
    split
    · rename_i h3; exact (take_shut hn h2 h3).le (by decide)
    · rename_i h3
      have := take_ok (n := n) (next := s.next) hn h2 (by simpa [atP] using h3)
      rw [ns_rm (ix_lt h2)] at this
      exact this.le (by decide)
theorem nextQ (hn : s.l.length ≤ 1000) : ACall Try.prog 13 [.pt 0 0, .val (.int .i64 a)] (nS n s) 2 (.tup [.agg (pC (nextS n s a).p), .val (.int .i64 (nextS n s a).e)]) (nS n (nextS n s a).s) := by
  unfold nextS
  split
  · rename_i h; exact (next_range h).le (by decide)
  · rename_i hp
    rw [Bool.not_eq_false] at hp
    split
    · rename_i h; exact (next_none hn hp h).le (by decide)
    · rename_i h
      have h2 : ix (opn s.f a) s.l = (ixN s a : Nat) := ix_or.resolve_left h
      have := next_ok (next := s.next) hn hp h2
      rw [ns_rm (ix_lt h2)] at this
      exact this.le (by decide)
theorem dropQ (hn : s.l.length ≤ 1000) : ACall Try.prog 35 [.pt 0 0, .val (.int .i64 a)] (nS n s) 2 (.val (.int .i64 (dropS s a).e)) (nS n (dropS s a).s) := by
  unfold dropS
  split
  · rename_i h; exact (drop_none hn h).le (by decide)
  · rename_i h
    have h2 : at' s.l a = (atN s a : Nat) := ix_or.resolve_left h
    have := drop_ok (n := n) (next := s.next) (f := s.f) hn h2
    rw [ns_rm (p := zPk) (ix_lt h2)] at this
    exact this.le (by decide)
theorem repQ (hn : s.l.length ≤ 1000) (h0 : 0 ≤ s.next) (h1 : s.next ≤ 1000000) : ACall Try.prog 19 [.pt 0 0, .val (.int .i64 a)] (nS n s) 2 (.val (.int .i64 (repS n s a).e)) (nS n (repS n s a).s) := by
  unfold repS
  split
  · rename_i h; exact (rep_none hn h).le (by decide)
  · rename_i h
    have h2 : at' s.l a = (atN s a : Nat) := ix_or.resolve_left h
    unfold sendS
    split
    · rename_i h; exact (rep_range hn h2 h).le (by decide)
    · rename_i h
      rw [Bool.not_eq_false, Bool.and_eq_true] at h
      split
      · rename_i h3; exact (rep_full hn h2 h.1 h.2 h3).le (by decide)
      · rename_i h3
        have := rep_ok (f := s.f) (Nat.lt_of_not_le h3) h2 h.1 h.2 h0 h1
        rw [← n1_x (by simp)] at this
        exact this
theorem blockQ : ACall Try.prog 17 [.pt 0 0, .val (.int .u16 a), .val (.int .u16 b), .val (.bool c)] (nS n s) 2 (.val (.int .i64 (blockS n s a b c).e)) (nS n (blockS n s a b c).s) := by
  unfold blockS
  split
  · rename_i h; exact (block_ok h).le (by decide)
  · rename_i h; exact (block_range h).le (by decide)
theorem dropS_p : (dropS s a).p = zPk := by unfold dropS; split <;> rfl
theorem sendS_p : (sendS n s m).p = zPk := by unfold sendS; split <;> (first | rfl | (split <;> rfl))
theorem repS_p : (repS n s a).p = zPk := by unfold repS; split <;> (first | rfl | exact sendS_p)
theorem blockS_p : (blockS n s a b c).p = zPk := by unfold blockS; split <;> rfl
end Go.Proofs.Ytphpjgfhdoobjaa
