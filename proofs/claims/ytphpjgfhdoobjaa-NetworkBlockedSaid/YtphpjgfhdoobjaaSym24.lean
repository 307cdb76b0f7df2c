/- Sets of bits: what the operations on 16-bit numbers are on natural numbers. No condition. -/
import Derived.Test.YtphpjgfhdoobjaaSym23
set_option linter.unusedVariables false
set_option linter.unusedSectionVars false
set_option linter.unusedSimpArgs false
namespace Go.Sy
variable {x y j : Nat}
theorem u_wrap (h : x < 65536) : IntKind.u16.wrap (x : Int) = x := w_u16 (by omega)
theorem u_of (h : x < 65536) : BitVec.ofInt 16 (x : Int) = BitVec.ofNat 16 x := by
  simp [BitVec.ofInt_natCast]
theorem u_or (hx : x < 65536) (hy : y < 65536) : IntKind.wrap .u16 ((BitVec.ofInt (IntKind.bits .u16) (x : Int) ||| BitVec.ofInt (IntKind.bits .u16) (y : Int)).toNat : Int) = ((x ||| y : Nat) : Int) := by
  show IntKind.wrap .u16 ((BitVec.ofInt 16 (x : Int) ||| BitVec.ofInt 16 (y : Int)).toNat : Int) = _
  rw [u_of hx, u_of hy, BitVec.toNat_or, BitVec.toNat_ofNat, BitVec.toNat_ofNat, Nat.mod_eq_of_lt (by simpa using hx), Nat.mod_eq_of_lt (by simpa using hy)]
  exact u_wrap (Nat.or_lt_two_pow (n := 16) hx hy)
theorem u_and (hx : x < 65536) (hy : y < 65536) : IntKind.wrap .u16 ((BitVec.ofInt (IntKind.bits .u16) (x : Int) &&& BitVec.ofInt (IntKind.bits .u16) (y : Int)).toNat : Int) = ((x &&& y : Nat) : Int) := by
  show IntKind.wrap .u16 ((BitVec.ofInt 16 (x : Int) &&& BitVec.ofInt 16 (y : Int)).toNat : Int) = _
  rw [u_of hx, u_of hy, BitVec.toNat_and, BitVec.toNat_ofNat, BitVec.toNat_ofNat, Nat.mod_eq_of_lt (by simpa using hx), Nat.mod_eq_of_lt (by simpa using hy)]
  exact u_wrap (Nat.lt_of_le_of_lt Nat.and_le_left hx)
theorem u_xor (hx : x < 65536) (hy : y < 65536) : IntKind.wrap .u16 ((BitVec.ofInt (IntKind.bits .u16) (x : Int) ^^^ BitVec.ofInt (IntKind.bits .u16) (y : Int)).toNat : Int) = ((x ^^^ y : Nat) : Int) := by
  show IntKind.wrap .u16 ((BitVec.ofInt 16 (x : Int) ^^^ BitVec.ofInt 16 (y : Int)).toNat : Int) = _
  rw [u_of hx, u_of hy, BitVec.toNat_xor, BitVec.toNat_ofNat, BitVec.toNat_ofNat, Nat.mod_eq_of_lt (by simpa using hx), Nat.mod_eq_of_lt (by simpa using hy)]
  exact u_wrap (Nat.xor_lt_two_pow (n := 16) hx hy)
/-- x without y. -/
def nand (x y : Nat) : Nat := x &&& (65535 - y % 65536)
theorem u_andNot (hx : x < 65536) (hy : y < 65536) : IntKind.wrap .u16 ((BitVec.ofInt (IntKind.bits .u16) (x : Int) &&& ~~~ BitVec.ofInt (IntKind.bits .u16) (y : Int)).toNat : Int) = ((nand x y : Nat) : Int) := by
  show IntKind.wrap .u16 ((BitVec.ofInt 16 (x : Int) &&& ~~~ BitVec.ofInt 16 (y : Int)).toNat : Int) = _
  rw [u_of hx, u_of hy, BitVec.toNat_and, BitVec.toNat_not, BitVec.toNat_ofNat, BitVec.toNat_ofNat, Nat.mod_eq_of_lt (by simpa using hx), Nat.mod_eq_of_lt (by simpa using hy)]
  unfold nand
  rw [Nat.mod_eq_of_lt hy]
  have h1 : (2 ^ 16 - 1 - y : Nat) = 65535 - y := by omega
  rw [h1]
  exact u_wrap (Nat.lt_of_le_of_lt Nat.and_le_left hx)
theorem u_shr (h : j ≤ 16) : Int.fdiv (x : Int) (2 ^ min j (IntKind.bits .u16)) = ((x >>> j : Nat) : Int) := by
  rw [show IntKind.bits .u16 = 16 from rfl, Nat.min_eq_left h, Nat.shiftRight_eq_div_pow]
  rw [Int.fdiv_eq_ediv_of_nonneg _ (Int.le_of_lt (Int.pow_pos (by decide)))]
  rw [show (2 : Int) ^ j = ((2 ^ j : Nat) : Int) by simp]
  rfl
theorem u_shl (h : j ≤ 16) (hx : x * 2 ^ j < 65536) : IntKind.u16.wrap ((x : Int) * 2 ^ min j (IntKind.bits .u16)) = ((x * 2 ^ j : Nat) : Int) := by
  rw [show IntKind.bits .u16 = 16 from rfl, Nat.min_eq_left h]
  rw [show (x : Int) * 2 ^ j = ((x * 2 ^ j : Nat) : Int) by simp]
  exact u_wrap hx
/-- Is bit j set? -/
theorem bit_and : ((x >>> j &&& 1 : Nat) : Int) = 1 ↔ x.testBit j = true := by
  rw [Nat.testBit, Nat.and_comm 1]
  have : x >>> j &&& 1 < 2 := Nat.lt_of_le_of_lt Nat.and_le_right (by decide)
  simp only [bne_iff_ne, ne_eq]
  omega
theorem nand_bit (hx : x < 65536) : (nand x y).testBit j = (x.testBit j && !y.testBit j) := by
  unfold nand
  rw [Nat.testBit_and]
  by_cases hj : j < 16
  · have e : 65535 - y % 65536 = 2 ^ 16 - (y % 65536 + 1) := by omega
    rw [e, Nat.testBit_two_pow_sub_succ (by have := Nat.mod_lt y (show 65536 > 0 by decide); simpa using this)]
    have : (y % 65536).testBit j = y.testBit j := by
      rw [show (65536 : Nat) = 2 ^ 16 by rfl, Nat.testBit_mod_two_pow]; simp [hj]
    rw [this]; simp [hj]
  · have : x.testBit j = false := Nat.testBit_lt_two_pow (Nat.lt_of_lt_of_le hx (by
      rw [show (65536 : Nat) = 2 ^ 16 by rfl]; exact Nat.pow_le_pow_right (by decide) (by omega)))
    simp [this]
end Go.Sy
