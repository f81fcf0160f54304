/-
  Steps of many shifts as what they make of each bit: plain numbers.
-/
import Derived.Test.YtejbfndcaiphoaaDoorCrcp
namespace Go.Proofs.YtejbfndcaiphoaaDoor
namespace Crcp
theorem mod_step (x k : Nat) : x % 2 ^ (k + 1) = x % 2 ^ k ^^^ (if (x / 2 ^ k) % 2 = 1 then 2 ^ k else 0) := by
  apply Nat.eq_of_testBit_eq
  intro i
  rw [Nat.testBit_mod_two_pow, Nat.testBit_xor, Nat.testBit_mod_two_pow]
  have hb : ((x / 2 ^ k) % 2 = 1) = (x.testBit k = true) := by
    rw [Nat.testBit_eq_decide_div_mod_eq]; simp
  split
  · rename_i h
    rw [hb] at h
    rw [Nat.testBit_two_pow]
    by_cases h1 : i < k
    · simp [h1, show i < k + 1 by omega, show k ≠ i by omega]
    · by_cases h2 : k = i
      · subst h2; simp [h]
      · simp [h1, h2, show ¬ i < k + 1 by omega]
  · rename_i h
    rw [hb] at h
    rw [Nat.zero_testBit]
    by_cases h1 : i < k
    · simp [h1, show i < k + 1 by omega]
    · by_cases h2 : k = i
      · subst h2; simp [h]
      · simp [h1, show ¬ i < k + 1 by omega]
theorem bits_step (m x k : Nat) : bits m (x % 2 ^ (k + 1)) = bits m (x % 2 ^ k) ^^^ (if (x / 2 ^ k) % 2 = 1 then bits m (2 ^ k) else 0) := by
  rw [mod_step, bits_xor]
  split
  · rfl
  · rw [bits_zero]
/-- what a step of m shifts makes of each bit -/
def sq (m : Nat) : List Nat := (List.range 32).map fun i => bits m (2 ^ i)
theorem sq_at (m i : Nat) (h : i < 32) : (sq m)[i]? = some (bits m (2 ^ i)) := by
  unfold sq; rw [List.getElem?_map, List.getElem?_range h]; rfl
theorem bit_zero : bits 1 (2 ^ 0) = 3988292384 := by decide
theorem bit_succ (i : Nat) : bits 1 (2 ^ (i + 1)) = 2 ^ i := by
  show bit1 (2 ^ (i + 1)) = _
  rw [Nat.pow_succ, Nat.mul_comm, bit1_double]
theorem two_pow_lt (i : Nat) (h : i < 32) : 2 ^ i < 4294967296 := Nat.lt_of_lt_of_le (Nat.pow_lt_pow_right (by omega) h) (by decide)
end Crcp
end Go.Proofs.YtejbfndcaiphoaaDoor
