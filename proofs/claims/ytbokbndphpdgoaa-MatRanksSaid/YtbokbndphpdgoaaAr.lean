/-
  Small facts on numbers as the walk writes them: bits of bytes and of 32 bit numbers, shifts, what is handed back.
-/
import Derived.WalkKit
import Derived.KernelRfl
namespace Go.Proofs.Ytbokbndphpdgoaa
open Go.RowKit

theorem ret_int {k : IntKind} {a b : Int} (h : a = b) : Ending.returned (.int k a) = .returned (.int k b) := by rw [h]
theorem ret_bool {a b : Bool} (h : a = b) : Ending.returned (.bool a) = .returned (.bool b) := by rw [h]
theorem ret_two {k l : IntKind} {a b c d : Int} (h : a = c) (h2 : b = d) : Ending.returned (.tuple #[.int k a, .int l b]) = .returned (.tuple #[.int k c, .int l d]) := by rw [h, h2]
theorem u8_hi (a : Nat) (ha : a < 256) : (bits .and .u8 (a : Int) 128 != 0) = a.testBit 7 := by
  rw [show (128 : Int) = ((128 : Nat) : Int) from rfl, u8_and_nat a 128 ha (by omega), nat_bit 7 a, Nat.testBit_eq_decide_div_mod_eq]
  rcases Nat.mod_two_eq_zero_or_one (a / 2 ^ 7) with h | h <;> rw [h] <;> rfl
theorem u8_lo (a : Nat) (ha : a < 256) : bits .and .u8 (a : Int) 1 = ((a % 2 : Nat) : Int) := by
  rw [show (1 : Int) = ((1 : Nat) : Int) from rfl, u8_and_nat a 1 ha (by omega), nat_mask1]
theorem u8_xor_lit (a b : Nat) (ha : a < 256) (hb : b < 256) : bits .xor .u8 (a : Int) (b : Int) = ((a ^^^ b : Nat) : Int) := u8_xor_nat a b ha hb
theorem ofInt_i64 (a : Nat) (ha : a < 9223372036854775808) : (BitVec.ofInt 64 (a : Int)).toNat = a := by
  rw [BitVec.ofInt_natCast, BitVec.toNat_ofNat]; exact Nat.mod_eq_of_lt (by omega)
theorem i64_and_nat (a b : Nat) (ha : a < 9223372036854775808) (hb : b < 9223372036854775808) : bits .and .i64 (a : Int) (b : Int) = ((a &&& b : Nat) : Int) := by
  have hx : a &&& b < 2 ^ 63 := Nat.and_lt_two_pow _ (by omega)
  show IntKind.i64.wrap ((BitVec.ofInt 64 (a : Int) &&& BitVec.ofInt 64 (b : Int)).toNat : Int) = _
  rw [BitVec.toNat_and, ofInt_i64 a ha, ofInt_i64 b hb, IntKind.wrap_i64]
  omega
theorem i64_or_nat (a b : Nat) (ha : a < 9223372036854775808) (hb : b < 9223372036854775808) : bits .or .i64 (a : Int) (b : Int) = ((a ||| b : Nat) : Int) := by
  have hx : a ||| b < 2 ^ 63 := Nat.or_lt_two_pow (by omega) (by omega)
  show IntKind.i64.wrap ((BitVec.ofInt 64 (a : Int) ||| BitVec.ofInt 64 (b : Int)).toNat : Int) = _
  rw [BitVec.toNat_or, ofInt_i64 a ha, ofInt_i64 b hb, IntKind.wrap_i64]
  omega
theorem i64_xor_nat (a b : Nat) (ha : a < 9223372036854775808) (hb : b < 9223372036854775808) : bits .xor .i64 (a : Int) (b : Int) = ((a ^^^ b : Nat) : Int) := by
  have hx : a ^^^ b < 2 ^ 63 := Nat.xor_lt_two_pow (by omega) (by omega)
  show IntKind.i64.wrap ((BitVec.ofInt 64 (a : Int) ^^^ BitVec.ofInt 64 (b : Int)).toNat : Int) = _
  rw [BitVec.toNat_xor, ofInt_i64 a ha, ofInt_i64 b hb, IntKind.wrap_i64]
  omega
theorem shr_cast (b i : Nat) : ((b : Int) / 2 ^ i) = ((b >>> i : Nat) : Int) := by
  rw [Nat.shiftRight_eq_div_pow]; simp
theorem shr_odd (b i : Nat) : (((b : Int) / 2 ^ i).tmod 2 == 1) = decide ((b >>> i) % 2 = 1) := by
  rw [shr_cast]
  generalize b >>> i = n
  rw [Int.tmod_eq_emod_of_nonneg (by omega)]
  by_cases h : n % 2 = 1
  · simp [h]; omega
  · simp [h]; omega
theorem shl_cast (a i : Nat) : ((a : Int) * 2 ^ i) = ((a <<< i : Nat) : Int) := by
  rw [Nat.shiftLeft_eq]; simp
theorem wrap64_nat (n : Nat) (h : n < 9223372036854775808) : wrap64 (n : Int) = (n : Int) := IntWalk.wrap64_in n ⟨by omega, by omega⟩
theorem shl_small (a i m : Nat) (ha : a < 2 ^ m) (hi : i + m ≤ 62) : a <<< i < 4611686018427387904 := by
  rw [Nat.shiftLeft_eq]
  exact calc a * 2 ^ i < 2 ^ m * 2 ^ i := Nat.mul_lt_mul_of_pos_right ha (Nat.two_pow_pos i)
    _ = 2 ^ (m + i) := (Nat.pow_add 2 m i).symm
    _ ≤ 2 ^ 62 := Nat.pow_le_pow_right (by omega) (by omega)
theorem u64_lo (a : Nat) (ha : a < 18446744073709551616) : bits .and .u64 (a : Int) 1 = ((a % 2 : Nat) : Int) := by
  rw [show (1 : Int) = ((1 : Nat) : Int) from rfl, u64_and_nat a 1 ha (by omega), nat_mask1]
theorem u32_lo (a : Nat) (ha : a < 4294967296) : bits .and .u32 (a : Int) 1 = ((a % 2 : Nat) : Int) := by
  rw [show (1 : Int) = ((1 : Nat) : Int) from rfl, u32_and_nat a 1 ha (by omega), nat_mask1]
end Go.Proofs.Ytbokbndphpdgoaa
