/-
  The sum of bytes as plain numbers: with some of at most 32 bits turned that stand side by side, what was put isn't right any more.
-/
import Derived.Test.YtejbfndcaiphoaaDoorCrcp
namespace Go.Proofs.YtejbfndcaiphoaaDoor
namespace Crcp
/-- bytes as one number, the first byte lowest -/
def le : List UInt8 → Nat
  | [] => 0
  | c :: bs => c.toNat ^^^ 2 ^ 8 * le bs
theorem run_le : ∀ (bs : List UInt8) (x : Nat), run x bs = bits (8 * bs.length) (x ^^^ le bs)
  | [], x => by simp [run_nil, le, bits]
  | c :: bs, x => by
    rw [run_cons, run_le bs, List.length_cons, show 8 * (bs.length + 1) = 8 + 8 * bs.length by omega, bits_add]
    congr 1
    rw [le, ← Nat.xor_assoc, bits_xor 8 (x ^^^ c.toNat), bits_pow]
theorem two_mul_xor (a b : Nat) : 2 ^ 8 * (a ^^^ b) = 2 ^ 8 * a ^^^ 2 ^ 8 * b := by
  apply Nat.eq_of_testBit_eq
  intro i
  simp only [Nat.testBit_two_pow_mul, Nat.testBit_xor]
  by_cases h : 8 ≤ i <;> simp [h]
theorem pow_mul_xor (n a b : Nat) : 2 ^ n * (a ^^^ b) = 2 ^ n * a ^^^ 2 ^ n * b := by
  apply Nat.eq_of_testBit_eq
  intro i
  simp only [Nat.testBit_two_pow_mul, Nat.testBit_xor]
  by_cases h : n ≤ i <;> simp [h]
theorem le_set : ∀ (l : List UInt8) (j r : Nat) (c : UInt8), l[j]? = some c → r < 8 → le (l.set j (c ^^^ UInt8.ofNat (2 ^ r))) = le l ^^^ 2 ^ (8 * j + r)
  | [], j, r, c, h, _ => by simp at h
  | d :: l, 0, r, c, h, hr => by
    simp at h; subst h
    have h2 : 2 ^ r < 256 := Nat.lt_of_lt_of_le (Nat.pow_lt_pow_right (by omega) hr) (by decide)
    simp only [List.set_cons_zero, le]
    rw [UInt8.toNat_xor, UInt8.toNat_ofNat', Nat.mod_eq_of_lt h2, Nat.mul_zero, Nat.zero_add, Nat.xor_assoc, Nat.xor_assoc, Nat.xor_comm (2 ^ r)]
  | d :: l, j + 1, r, c, h, hr => by
    simp only [List.getElem?_cons_succ] at h
    simp only [List.set_cons_succ, le]
    rw [le_set l j r c h hr, pow_mul_xor, ← Nat.pow_add, Nat.xor_assoc]
    congr 3; omega
theorem run_ok (q : List UInt8) (_h4 : 4 ≤ q.length) (h : cutOk q = true) : run top q = bits 32 top := by
  have h2 : q.drop (q.length - 4) = tail (sum (q.take (q.length - 4))) := of_decide_eq_true h
  have e : q = q.take (q.length - 4) ++ tail (sum (q.take (q.length - 4))) := by
    rw [← h2]; exact (List.take_append_drop _ _).symm
  rw [e, run_append]
  unfold sum more
  rw [Nat.zero_xor]
  exact run_tail _ (run_lt _ _ top_lt)
/-- what was put, some of 32 bits side by side turned -/
theorem turned_ok (p q : List UInt8) (f x : Nat) (h4 : 4 ≤ p.length) (hl : q.length = p.length) (hp : cutOk p = true) (hq : cutOk q = true) (hf : f ≤ 8 * p.length) (hx : x < 4294967296) (he : le q = le p ^^^ 2 ^ f * x) : x = 0 := by
  have h1 := run_ok p h4 hp
  have h2 := run_ok q (by omega) hq
  rw [run_le] at h1 h2
  rw [he, ← Nat.xor_assoc, bits_xor, hl, h1] at h2
  have h3 : bits (8 * p.length) (2 ^ f * x) = 0 := by
    have := congrArg (bits 32 top ^^^ ·) h2
    simpa [← Nat.xor_assoc] using this
  rw [show 8 * p.length = f + (8 * p.length - f) by omega, bits_add, bits_pow] at h3
  exact bits_eq_zero _ _ hx h3
theorem cutE_turned (p q : List UInt8) (f x : Nat) (h4 : 4 ≤ p.length) (hl : q.length = p.length) (hp : cutOk p = true) (hf : f ≤ 8 * p.length) (hx : x < 4294967296) (he : le q = le p ^^^ 2 ^ f * x) (h0 : x ≠ 0) : cutE q = 5 := by
  unfold cutE
  rw [if_neg (by omega)]
  cases hq : cutOk q
  · rfl
  · exact absurd (turned_ok p q f x h4 hl hp hq hf hx he) h0
theorem xor_pow_lt (x k : Nat) (h : x < 2 ^ k) : x ^^^ 2 ^ k < 2 ^ (k + 1) ∧ x ^^^ 2 ^ k ≠ 0 := by
  have h1 : x < 2 ^ (k + 1) := Nat.lt_of_lt_of_le h (Nat.pow_le_pow_right (by omega) (by omega))
  refine ⟨Nat.xor_lt_two_pow h1 (Nat.pow_lt_pow_right (by omega) (by omega)), fun h2 => ?_⟩
  have h3 : x = 2 ^ k := by
    have := congrArg (· ^^^ 2 ^ k) h2
    simpa [Nat.xor_assoc] using this
  omega
theorem le_step (l p : List UInt8) (f k x j r : Nat) (c : UInt8) (he : le l = le p ^^^ 2 ^ f * x) (hc : l[j]? = some c) (hr : r < 8) (hj : 8 * j + r = f + k) : le (l.set j (c ^^^ UInt8.ofNat (2 ^ r))) = le p ^^^ 2 ^ f * (x ^^^ 2 ^ k) := by
  rw [le_set l j r c hc hr, he, hj, pow_mul_xor, ← Nat.pow_add, Nat.xor_assoc]
end Crcp
end Go.Proofs.YtejbfndcaiphoaaDoor
