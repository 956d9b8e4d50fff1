/- '&' on int with a mask; with a single bit. No program in sight. -/
import Derived.Laws.Bits128
set_option linter.unusedSimpArgs false
set_option linter.unusedVariables false
set_option linter.unusedSectionVars false
namespace Go.Proofs.Ytnokhjhhadnckaa
theorem and_mask_key (n : Int) (m i : Nat) (hm : (BitVec.ofInt 64 (m : Int)).toNat = 2 ^ i - 1) :
    (BitVec.ofInt 64 n &&& BitVec.ofInt 64 (m : Int)).toNat = (n % ((2 ^ 64 : Nat) : Int)).toNat % 2 ^ i := by
  rw [BitVec.toNat_and, BitVec.toNat_ofInt, hm, Nat.and_two_pow_sub_one_eq_mod]
theorem i64_and1 (n : Int) : bits .and .i64 n 1 = n % 2 := by
  show IntKind.i64.wrap ((BitVec.ofInt 64 n &&& BitVec.ofInt 64 ((1 : Nat) : Int)).toNat : Nat) = n % 2
  rw [and_mask_key n 1 1 (by decide), IntKind.wrap_i64]; omega
theorem i64_and3 (n : Int) : bits .and .i64 n 3 = n % 4 := by
  show IntKind.i64.wrap ((BitVec.ofInt 64 n &&& BitVec.ofInt 64 ((3 : Nat) : Int)).toNat : Nat) = n % 4
  rw [and_mask_key n 3 2 (by decide), IntKind.wrap_i64]; omega
theorem i64_and7 (n : Int) : bits .and .i64 n 7 = n % 8 := by
  show IntKind.i64.wrap ((BitVec.ofInt 64 n &&& BitVec.ofInt 64 ((7 : Nat) : Int)).toNat : Nat) = n % 8
  rw [and_mask_key n 7 3 (by decide), IntKind.wrap_i64]; omega
theorem i64_and15 (n : Int) : bits .and .i64 n 15 = n % 16 := by
  show IntKind.i64.wrap ((BitVec.ofInt 64 n &&& BitVec.ofInt 64 ((15 : Nat) : Int)).toNat : Nat) = n % 16
  rw [and_mask_key n 15 4 (by decide), IntKind.wrap_i64]; omega
theorem i64_and31 (n : Int) : bits .and .i64 n 31 = n % 32 := by
  show IntKind.i64.wrap ((BitVec.ofInt 64 n &&& BitVec.ofInt 64 ((31 : Nat) : Int)).toNat : Nat) = n % 32
  rw [and_mask_key n 31 5 (by decide), IntKind.wrap_i64]; omega
theorem i64_and63 (n : Int) : bits .and .i64 n 63 = n % 64 := by
  show IntKind.i64.wrap ((BitVec.ofInt 64 n &&& BitVec.ofInt 64 ((63 : Nat) : Int)).toNat : Nat) = n % 64
  rw [and_mask_key n 63 6 (by decide), IntKind.wrap_i64]; omega
theorem i64_and255 (n : Int) : bits .and .i64 n 255 = n % 256 := by
  show IntKind.i64.wrap ((BitVec.ofInt 64 n &&& BitVec.ofInt 64 ((255 : Nat) : Int)).toNat : Nat) = n % 256
  rw [and_mask_key n 255 8 (by decide), IntKind.wrap_i64]; omega
theorem i64_and511 (n : Int) : bits .and .i64 n 511 = n % 512 := by
  show IntKind.i64.wrap ((BitVec.ofInt 64 n &&& BitVec.ofInt 64 ((511 : Nat) : Int)).toNat : Nat) = n % 512
  rw [and_mask_key n 511 9 (by decide), IntKind.wrap_i64]; omega
theorem i64_and65535 (n : Int) : bits .and .i64 n 65535 = n % 65536 := by
  show IntKind.i64.wrap ((BitVec.ofInt 64 n &&& BitVec.ofInt 64 ((65535 : Nat) : Int)).toNat : Nat) = n % 65536
  rw [and_mask_key n 65535 16 (by decide), IntKind.wrap_i64]; omega
theorem i64_and1048575 (n : Int) : bits .and .i64 n 1048575 = n % 1048576 := by
  show IntKind.i64.wrap ((BitVec.ofInt 64 n &&& BitVec.ofInt 64 ((1048575 : Nat) : Int)).toNat : Nat) = n % 1048576
  rw [and_mask_key n 1048575 20 (by decide +kernel), IntKind.wrap_i64]; omega
theorem i64_and16777215 (n : Int) : bits .and .i64 n 16777215 = n % 16777216 := by
  show IntKind.i64.wrap ((BitVec.ofInt 64 n &&& BitVec.ofInt 64 ((16777215 : Nat) : Int)).toNat : Nat) = n % 16777216
  rw [and_mask_key n 16777215 24 (by decide +kernel), IntKind.wrap_i64]; omega
theorem and_two_pow_ (n i : Nat) : n &&& 2 ^ i = n / 2 ^ i % 2 * 2 ^ i := by
  apply Nat.eq_of_testBit_eq
  intro j
  rw [Nat.testBit_and, Nat.testBit_two_pow, Nat.testBit_mul_two_pow]
  by_cases h : i = j
  · subst h; simp [Nat.testBit_eq_decide_div_mod_eq]
  · simp [h]
    intro h1
    rw [Nat.testBit_eq_decide_div_mod_eq]
    have : n / 2 ^ i % 2 < 2 := Nat.mod_lt _ (by decide)
    have h2 : 2 ≤ 2 ^ (j - i) := by
      have : 2 ^ 1 ≤ 2 ^ (j - i) := Nat.pow_le_pow_right (by decide) (by omega)
      simpa using this
    rw [Nat.div_eq_of_lt (by omega)]
    simp
theorem and_bit_key (n : Int) (m i : Nat) (hm : (BitVec.ofInt 64 (m : Int)).toNat = 2 ^ i) :
    (BitVec.ofInt 64 n &&& BitVec.ofInt 64 (m : Int)).toNat = ((n % ((2 ^ 64 : Nat) : Int)).toNat / 2 ^ i % 2) * 2 ^ i := by
  rw [BitVec.toNat_and, BitVec.toNat_ofInt, hm, and_two_pow_]
theorem i64_bit4 (n : Int) : bits .and .i64 n 4 = n / 4 % 2 * 4 := by
  show IntKind.i64.wrap ((BitVec.ofInt 64 n &&& BitVec.ofInt 64 ((4 : Nat) : Int)).toNat : Nat) = _
  rw [and_bit_key n 4 2 (by decide), IntKind.wrap_i64]; omega
theorem i64_bit8 (n : Int) : bits .and .i64 n 8 = n / 8 % 2 * 8 := by
  show IntKind.i64.wrap ((BitVec.ofInt 64 n &&& BitVec.ofInt 64 ((8 : Nat) : Int)).toNat : Nat) = _
  rw [and_bit_key n 8 3 (by decide), IntKind.wrap_i64]; omega
theorem i64_bit16 (n : Int) : bits .and .i64 n 16 = n / 16 % 2 * 16 := by
  show IntKind.i64.wrap ((BitVec.ofInt 64 n &&& BitVec.ofInt 64 ((16 : Nat) : Int)).toNat : Nat) = _
  rw [and_bit_key n 16 4 (by decide), IntKind.wrap_i64]; omega
end Go.Proofs.Ytnokhjhhadnckaa
