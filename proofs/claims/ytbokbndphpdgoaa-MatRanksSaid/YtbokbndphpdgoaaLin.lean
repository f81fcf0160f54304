/-
  Matrices over the field, plain: sums, products, brackets, the identity.
-/
import Derived.Test.YtbokbndphpdgoaaGfu
namespace Go.Proofs.Ytbokbndphpdgoaa.Lin
set_option linter.unusedVariables false
set_option linter.unusedSimpArgs false

theorem xor4 (a b c d : UInt8) : (a ^^^ b) ^^^ (c ^^^ d) = (a ^^^ c) ^^^ (b ^^^ d) := by
  rw [UInt8.xor_assoc, UInt8.xor_assoc, ← UInt8.xor_assoc b c d, UInt8.xor_comm b c, UInt8.xor_assoc c b d]
/-- the sum of the first n of them -/
def sum (f : Nat → UInt8) : Nat → UInt8
  | 0 => 0
  | k + 1 => sum f k ^^^ f k
theorem sum_congr {f g : Nat → UInt8} : ∀ n, (∀ t, t < n → f t = g t) → sum f n = sum g n
  | 0, _ => rfl
  | n + 1, h => by rw [sum, sum, sum_congr n (fun t ht => h t (by omega)), h n (by omega)]
theorem sum_zero {f : Nat → UInt8} : ∀ n, (∀ t, t < n → f t = 0) → sum f n = 0
  | 0, _ => rfl
  | n + 1, h => by rw [sum, sum_zero n (fun t ht => h t (by omega)), h n (by omega), fx_self]
theorem sum_xor (f g : Nat → UInt8) : ∀ n, sum (fun t => f t ^^^ g t) n = sum f n ^^^ sum g n
  | 0 => (fx_self 0).symm
  | n + 1 => by rw [sum, sum_xor f g n, xor4]; rfl
theorem sum_mul (c : UInt8) (f : Nat → UInt8) : ∀ n, sum (fun t => fm c (f t)) n = fm c (sum f n)
  | 0 => (fm_zero c).symm
  | n + 1 => by rw [sum, sum_mul c f n, sum, fm_xor]
theorem sum_mul' (c : UInt8) (f : Nat → UInt8) : ∀ n, sum (fun t => fm (f t) c) n = fm (sum f n) c
  | 0 => (zero_fm c).symm
  | n + 1 => by rw [sum, sum_mul' c f n, sum, xor_fm]
theorem sum_swap (f : Nat → Nat → UInt8) (m : Nat) : ∀ n, sum (fun i => sum (fun j => f i j) m) n = sum (fun j => sum (fun i => f i j) n) m
  | 0 => (sum_zero m (fun _ _ => rfl)).symm
  | n + 1 => by
    rw [sum, sum_swap f m n, ← sum_xor]; rfl
theorem sum_one {f : Nat → UInt8} {i : Nat} : ∀ n, i < n → (∀ t, t < n → t ≠ i → f t = 0) → sum f n = f i
  | 0, h, _ => by omega
  | n + 1, h, h0 => by
    rw [sum]
    by_cases hi : i = n
    · rw [sum_zero n (fun t ht => h0 t (by omega) (by omega)), zero_fx, hi]
    · rw [sum_one n (by omega) (fun t ht hne => h0 t (by omega) hne), h0 n (by omega) (fun e => hi e.symm), fx_zero]

/-- the identity -/
def one (i j : Nat) : UInt8 := if i = j then 1 else 0
theorem one_self (i : Nat) : one i i = 1 := if_pos rfl
theorem one_ne {i j : Nat} (h : i ≠ j) : one i j = 0 := if_neg h
/-- the product, over K of the middle -/
def mm (K : Nat) (a b : Nat → Nat → UInt8) (i j : Nat) : UInt8 := sum (fun t => fm (a i t) (b t j)) K
theorem mm_assoc (K C : Nat) (a b c : Nat → Nat → UInt8) (i j : Nat) : mm C (mm K a b) c i j = mm K a (mm C b c) i j := by
  unfold mm
  have e1 : (fun t => fm (sum (fun s => fm (a i s) (b s t)) K) (c t j)) = fun t => sum (fun s => fm (fm (a i s) (b s t)) (c t j)) K := by
    funext t; rw [sum_mul']
  have e2 : (fun s => fm (a i s) (sum (fun t => fm (b s t) (c t j)) C)) = fun s => sum (fun t => fm (a i s) (fm (b s t) (c t j))) C := by
    funext s; rw [sum_mul]
  rw [e1, e2, sum_swap]
  apply sum_congr
  intro s _
  apply sum_congr
  intro t _
  rw [fm_assoc]
theorem mm_congr {K : Nat} {a a' b b' : Nat → Nat → UInt8} {i j : Nat} (ha : ∀ t, t < K → a i t = a' i t) (hb : ∀ t, t < K → b t j = b' t j) : mm K a b i j = mm K a' b' i j :=
  sum_congr K (fun t ht => by rw [ha t ht, hb t ht])
theorem mm_one_left {n : Nat} (a : Nat → Nat → UInt8) {i : Nat} (j : Nat) (hi : i < n) : mm n one a i j = a i j := by
  unfold mm
  rw [sum_one (i := i) n hi (fun t _ hne => by rw [one_ne (fun e => hne e.symm), zero_fm]), one_self, one_fm]
theorem mm_one_right {n : Nat} (a : Nat → Nat → UInt8) (i : Nat) {j : Nat} (hj : j < n) : mm n a one i j = a i j := by
  unfold mm
  rw [sum_one (i := j) n hj (fun t _ hne => by rw [one_ne hne, fm_zero]), one_self, fm_one]
end Go.Proofs.Ytbokbndphpdgoaa.Lin
