/-
  The symbolic walk: the complement of a set. No condition.
-/
import Derived.Test.YtdeligopifoceaaDoorSymC
set_option linter.unusedVariables false
set_option linter.unusedSectionVars false
set_option linter.unusedSimpArgs false
namespace Go.Sy
section
variable {P : Program} {st : St} {dst : Option Nat} {ty : TypeId} {pos : String} {af : Array Edge} {g : Option (Nat × Bool)} {nid : Nat} {K : Nat → Eff → Prop}
theorem compl_nat {s : Nat} (hs : s < 65536) : 65535 ^^^ s = 65535 - s := by
  refine Nat.eq_of_testBit_eq (fun i => ?_)
  rw [Nat.testBit_xor, show 65535 - s = 2 ^ 16 - (s + 1) by omega, Nat.testBit_two_pow_sub_succ (by omega), show (65535 : Nat) = 2 ^ 16 - 1 by rfl, Nat.testBit_two_pow_sub_one]
  by_cases h : i < 16
  · simp [h]
  · have : s.testBit i = false := Nat.testBit_lt_two_pow (Nat.lt_of_lt_of_le hs (by rw [show (65536 : Nat) = 2 ^ 16 by rfl]; exact Nat.pow_le_pow_right (by decide) (by omega)))
    simp [h, this]
theorem Q_compl16 (t : TypeId) (x : Operand) (h : bindK (intkAV (st.op x)) fun p => p.1 = .u16 ∧ 0 ≤ p.2 ∧ p.2 < 65536 ∧ K 0 ⟨.val (.int .u16 (65535 - p.2)), []⟩) : AO P ⟨dst, .unOp .xor t x, ty, pos, af, g⟩ nid st K := by
  obtain ⟨⟨k, n⟩, h1, hk, h2, h3, h4⟩ := h
  dsimp only at hk h2 h3 h4
  subst hk
  obtain ⟨s, rfl⟩ := Int.eq_ofNat_of_zero_le h2
  have hx := intkAV_eq h1
  refine ⟨0, _, .pure fun c ρ D J a w hs => ?_, h4⟩
  have e1 := hs.op x
  rw [hx] at e1
  have e := rep_val_inv e1
  have hs' : s < 65536 := by omega
  have key : IntKind.wrap .u16 ((BitVec.ofInt (IntKind.bits .u16) (65535 : Int) ^^^ BitVec.ofInt (IntKind.bits .u16) (s : Int)).toNat : Int) = 65535 - (s : Int) := by
    have := u_xor (x := 65535) (y := s) (by omega) hs'
    rw [compl_nat hs'] at this
    rw [show (65535 : Int) = ((65535 : Nat) : Int) from rfl, this]
    omega
  refine ⟨.int .u16 (65535 - (s : Int)), ?_, .val _⟩
  rw [← key]
  simp [execOp, e, Op.unary, Op.intBits, IntKind.signed, IntKind.max]
  rw [show ((-1 : Int) % 2 ^ IntKind.bits .u16).toNat = 65535 % 2 ^ IntKind.bits .u16 by decide]
end
end Go.Sy
