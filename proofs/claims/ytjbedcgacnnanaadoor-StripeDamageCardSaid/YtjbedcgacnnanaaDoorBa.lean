/-
  Texts put together: Gfp Ar Gfa Gfu Mem App Gfb Reg Reg2.
-/
import Derived.KernelRfl
import Derived.WalkKit
import Derived.Test.YtjbedcgacnnanaaDoorChecked
import Derived.Lib.Hide
import Derived.Below
import Derived.Laws.OwnMore
import Derived.Deep.AppendLies
import Derived.Deep.Draws
import Derived.Laws.Rows
import Derived.Laws.Tables
import Derived.Deep.WholeRow
import Derived.Maps.AppendAt
import Derived.RegionTactic
import Derived.OwnWalk
import Derived.Outline
import Derived.Deep.QuietTactic
import Derived.BigQuiet
import Derived.StillTailTactics
import Derived.Deep.RegionHeld3
namespace Go.Proofs.YtjbedcgacnnanaaDoor
namespace Gfp

/-- A function of numbers below 2^n that turns xor into xor is known by what it makes of the powers of 2. -/
theorem xor_split (k x : Nat) (h : x < 2 ^ (k + 1)) : ∃ y, y < 2 ^ k ∧ (x = y ∨ x = y ^^^ 2 ^ k) := by
  by_cases hx : x < 2 ^ k
  · exact ⟨x, hx, .inl rfl⟩
  · refine ⟨x ^^^ 2 ^ k, ?_, .inr (by rw [Nat.xor_assoc, Nat.xor_self, Nat.xor_zero])⟩
    have hb : x.testBit k = true := by
      rw [Nat.testBit_eq_decide_div_mod_eq]
      have : x / 2 ^ k = 1 := by
        have h2 : 2 ^ (k + 1) = 2 * 2 ^ k := by rw [Nat.pow_succ, Nat.mul_comm]
        rw [Nat.div_eq_of_lt_le] <;> omega
      simp [this]
    refine Nat.lt_pow_two_of_testBit _ fun j hj => ?_
    rw [Nat.testBit_xor]
    by_cases hjk : j = k
    · subst hjk; rw [hb, Nat.testBit_two_pow_self]; rfl
    · rw [Nat.testBit_lt_two_pow (Nat.lt_of_lt_of_le h (Nat.pow_le_pow_right (by omega) (by omega))), Nat.testBit_two_pow_of_ne (by omega)]; rfl

theorem lin_zero (f : Nat → Nat) (hf : f (0 ^^^ 0) = f 0 ^^^ f 0) : f 0 = 0 := by
  rw [Nat.xor_self] at hf
  rw [hf]; exact Nat.xor_self _

theorem lin_ext (n : Nat) (f g : Nat → Nat) (hf : ∀ x y, x < 2 ^ n → y < 2 ^ n → f (x ^^^ y) = f x ^^^ f y) (hg : ∀ x y, x < 2 ^ n → y < 2 ^ n → g (x ^^^ y) = g x ^^^ g y)
    (h : ∀ i, i < n → f (2 ^ i) = g (2 ^ i)) : ∀ x, x < 2 ^ n → f x = g x := by
  have key : ∀ k, k ≤ n → ∀ x, x < 2 ^ k → f x = g x := by
    intro k
    induction k with
    | zero =>
      intro _ x hx
      obtain rfl : x = 0 := by simpa using hx
      have h0 : 0 < 2 ^ n := Nat.two_pow_pos n
      rw [lin_zero f (hf 0 0 h0 h0), lin_zero g (hg 0 0 h0 h0)]
    | succ k ih =>
      intro hk x hx
      have hk2 : 2 ^ k < 2 ^ n := Nat.pow_lt_pow_right (by omega) (by omega)
      obtain ⟨y, hy, rfl | rfl⟩ := xor_split k x hx
      · exact ih (by omega) x hy
      · rw [hf y _ (by omega) hk2, hg y _ (by omega) hk2, ih (by omega) y hy, h k (by omega)]
  exact key n (Nat.le_refl n)

def tw (a : Nat) : Nat := if a.testBit 7 then (a <<< 1) % 256 ^^^ 29 else (a <<< 1) % 256
def mulGo : Nat → Nat → Nat → Nat → Nat
  | 0, _, _, out => out
  | k+1, a, b, out => mulGo k (tw a) (b / 2) (if b % 2 = 1 then out ^^^ a else out)
def gm (a b : Nat) : Nat := mulGo 8 a b 0

theorem xor_mod256 (a b : Nat) : (a ^^^ b) % 256 = a % 256 ^^^ b % 256 := Nat.xor_mod_two_pow (n := 8)
theorem tw_lt (a : Nat) : tw a < 256 := by
  unfold tw
  split
  · exact Nat.xor_lt_two_pow (n := 8) (by omega) (by omega)
  · omega
theorem xor4 (a b c d : Nat) : (a ^^^ c) ^^^ (b ^^^ d) = (a ^^^ b) ^^^ (c ^^^ d) := by
  rw [Nat.xor_assoc, Nat.xor_assoc, ← Nat.xor_assoc c b d, Nat.xor_comm c b, Nat.xor_assoc b c d]
theorem tw_xor (a b : Nat) : tw (a ^^^ b) = tw a ^^^ tw b := by
  unfold tw
  rw [Nat.shiftLeft_xor_distrib, xor_mod256, Nat.testBit_xor]
  generalize (a <<< 1) % 256 = p
  generalize (b <<< 1) % 256 = q
  cases a.testBit 7 <;> cases b.testBit 7 <;> simp [Nat.xor_assoc, Nat.xor_comm 29]
theorem div_xor (a b : Nat) : (a ^^^ b) / 2 = a / 2 ^^^ b / 2 := by
  have h := Nat.shiftRight_xor_distrib (a := a) (b := b) (i := 1)
  simpa [Nat.shiftRight_eq_div_pow] using h
theorem mod_xor (a b : Nat) : (a ^^^ b) % 2 = (a % 2) ^^^ (b % 2) := Nat.xor_mod_two_pow (n := 1)

theorem mulGo_xor_left (k : Nat) : ∀ a a' b o o' : Nat, mulGo k (a ^^^ a') b (o ^^^ o') = mulGo k a b o ^^^ mulGo k a' b o' := by
  induction k with
  | zero => intros; rfl
  | succ k ih =>
    intro a a' b o o'
    simp only [mulGo]
    rw [tw_xor]
    split
    · rw [← ih, xor4]
    · rw [← ih]
theorem mulGo_xor_right (k : Nat) : ∀ a b b' o o' : Nat, mulGo k a (b ^^^ b') (o ^^^ o') = mulGo k a b o ^^^ mulGo k a b' o' := by
  induction k with
  | zero => intros; rfl
  | succ k ih =>
    intro a b b' o o'
    simp only [mulGo]
    rw [div_xor, mod_xor]
    rcases Nat.mod_two_eq_zero_or_one b with h | h <;> rcases Nat.mod_two_eq_zero_or_one b' with h' | h' <;> simp only [h, h'] <;> simp only [Nat.reduceXor, if_true, if_false, Nat.zero_ne_one] <;> rw [← ih]
    · congr 1
      rw [Nat.xor_assoc]
    · congr 1
      rw [Nat.xor_assoc, Nat.xor_assoc, Nat.xor_comm a o']
    · congr 1
      rw [xor4, Nat.xor_self, Nat.xor_zero]
theorem gm_xor_left (a a' b : Nat) : gm (a ^^^ a') b = gm a b ^^^ gm a' b := mulGo_xor_left 8 a a' b 0 0
theorem gm_xor_right (a b b' : Nat) : gm a (b ^^^ b') = gm a b ^^^ gm a b' := mulGo_xor_right 8 a b b' 0 0

theorem mulGo_lt (k : Nat) : ∀ a b o : Nat, a < 256 → o < 256 → mulGo k a b o < 256 := by
  induction k with
  | zero => intro a b o _ h; exact h
  | succ k ih =>
    intro a b o ha ho
    simp only [mulGo]
    refine ih _ _ _ (tw_lt a) ?_
    split
    · exact Nat.xor_lt_two_pow (n := 8) ho ha
    · exact ho
theorem mulGo_zero (k : Nat) : ∀ a o : Nat, mulGo k a 0 o = o := by
  induction k with
  | zero => intros; rfl
  | succ k ih => intro a o; simp only [mulGo]; exact ih _ _
theorem gm_lt (a b : Nat) (ha : a < 256) : gm a b < 256 := mulGo_lt 8 a b 0 ha (by omega)

def allUpto : Nat → (Nat → Bool) → Bool
  | 0, _ => true
  | n+1, p => p n && allUpto n p
theorem of_allUpto (p : Nat → Bool) : ∀ n, allUpto n p = true → ∀ i, i < n → p i = true := by
  intro n
  induction n with
  | zero => intro _ i hi; omega
  | succ n ih =>
    intro h i hi
    simp only [allUpto, Bool.and_eq_true] at h
    by_cases hin : i = n
    · rw [hin]; exact h.1
    · exact ih h.2 i (by omega)

theorem basis_comm : allUpto 8 (fun i => allUpto 8 fun j => Nat.beq (gm (2 ^ i) (2 ^ j)) (gm (2 ^ j) (2 ^ i))) = true := by decide +kernel
theorem basis_assoc : allUpto 8 (fun i => allUpto 8 fun j => allUpto 8 fun k => Nat.beq (gm (gm (2 ^ i) (2 ^ j)) (2 ^ k)) (gm (2 ^ i) (gm (2 ^ j) (2 ^ k)))) = true := by decide +kernel
theorem basis_one : allUpto 8 (fun i => Nat.beq (gm (2 ^ i) 1) (2 ^ i)) = true := by decide +kernel

theorem gm_comm (a b : Nat) (ha : a < 256) (hb : b < 256) : gm a b = gm b a := by
  refine lin_ext 8 (fun a => gm a b) (fun a => gm b a) (fun x y _ _ => gm_xor_left x y b) (fun x y _ _ => gm_xor_right b x y) (fun i hi => ?_) a ha
  refine lin_ext 8 (fun b => gm (2 ^ i) b) (fun b => gm b (2 ^ i)) (fun x y _ _ => gm_xor_right _ x y) (fun x y _ _ => gm_xor_left x y _) (fun j hj => ?_) b hb
  exact Nat.eq_of_beq_eq_true (of_allUpto _ 8 (of_allUpto _ 8 basis_comm i hi) j hj)
theorem gm_assoc (a b c : Nat) (ha : a < 256) (hb : b < 256) (hc : c < 256) : gm (gm a b) c = gm a (gm b c) := by
  refine lin_ext 8 (fun a => gm (gm a b) c) (fun a => gm a (gm b c)) (fun x y _ _ => ?_) (fun x y _ _ => gm_xor_left x y _) (fun i hi => ?_) a ha
  · show gm (gm (x ^^^ y) b) c = _
    rw [gm_xor_left, gm_xor_left]
  refine lin_ext 8 (fun b => gm (gm (2 ^ i) b) c) (fun b => gm (2 ^ i) (gm b c)) (fun x y _ _ => ?_) (fun x y _ _ => ?_) (fun j hj => ?_) b hb
  · show gm (gm _ (x ^^^ y)) c = _
    rw [gm_xor_right, gm_xor_left]
  · show gm _ (gm (x ^^^ y) c) = _
    rw [gm_xor_left, gm_xor_right]
  refine lin_ext 8 (fun c => gm (gm (2 ^ i) (2 ^ j)) c) (fun c => gm (2 ^ i) (gm (2 ^ j) c)) (fun x y _ _ => gm_xor_right _ x y) (fun x y _ _ => ?_) (fun k hk => ?_) c hc
  · show gm _ (gm _ (x ^^^ y)) = _
    rw [gm_xor_right, gm_xor_right]
  exact Nat.eq_of_beq_eq_true (of_allUpto _ 8 (of_allUpto _ 8 (of_allUpto _ 8 basis_assoc i hi) j hj) k hk)
theorem gm_one (a : Nat) (ha : a < 256) : gm a 1 = a := by
  refine lin_ext 8 (fun a => gm a 1) (fun a => a) (fun x y _ _ => gm_xor_left x y 1) (fun x y _ _ => rfl) (fun i hi => ?_) a ha
  exact Nat.eq_of_beq_eq_true (of_allUpto _ 8 basis_one i hi)
theorem one_gm (a : Nat) (ha : a < 256) : gm 1 a = a := by rw [gm_comm 1 a (by omega) ha, gm_one a ha]
theorem gm_zero (a : Nat) : gm a 0 = 0 := lin_zero (fun b => gm a b) (gm_xor_right a 0 0)
theorem zero_gm (a : Nat) : gm 0 a = 0 := lin_zero (fun b => gm b a) (gm_xor_left 0 0 a)

/-- The 254th power, by squares and products: the inverse. -/
def sq (a : Nat) : Nat := gm a a
def inv (a : Nat) : Nat :=
  let p2 := sq a; let p4 := sq p2; let p8 := sq p4; let p16 := sq p8; let p32 := sq p16; let p64 := sq p32; let p128 := sq p64
  gm (gm (gm (gm (gm (gm p2 p4) p8) p16) p32) p64) p128
theorem inv_all : allUpto 255 (fun a => Nat.beq (gm (a + 1) (inv (a + 1))) 1) = true := by decide +kernel
theorem gm_inv (a : Nat) (h0 : a ≠ 0) (ha : a < 256) : gm a (inv a) = 1 := by
  have h := of_allUpto _ 255 inv_all (a - 1) (by omega)
  have e : a - 1 + 1 = a := by omega
  rw [e] at h
  exact Nat.eq_of_beq_eq_true h
theorem sq_lt (a : Nat) (h : a < 256) : sq a < 256 := gm_lt a a h
theorem inv_lt (a : Nat) (ha : a < 256) : inv a < 256 := by
  unfold inv
  have h2 := sq_lt a ha
  repeat (first | exact h2 | (refine gm_lt _ _ ?_))
theorem gm_eq_zero (a b : Nat) (ha : a < 256) (hb : b < 256) (h : gm a b = 0) : a = 0 ∨ b = 0 := by
  by_cases h0 : a = 0
  · exact .inl h0
  · right
    have e : gm (gm (inv a) a) b = 0 := by rw [gm_assoc _ _ _ (inv_lt a ha) ha hb, h, gm_zero]
    rw [gm_comm _ a (inv_lt a ha) ha, gm_inv a h0 ha, one_gm b hb] at e
    exact e

/-! twice is the product by 2; a row -/
theorem basis_two : allUpto 8 (fun i => Nat.beq (tw (2 ^ i)) (gm (2 ^ i) 2)) = true := by decide +kernel
theorem tw_eq (a : Nat) (ha : a < 256) : tw a = gm a 2 := by
  refine lin_ext 8 tw (fun a => gm a 2) (fun x y _ _ => tw_xor x y) (fun x y _ _ => gm_xor_left x y 2) (fun i hi => ?_) a ha
  exact Nat.eq_of_beq_eq_true (of_allUpto _ 8 basis_two i hi)
theorem tw_small (j : Nat) (h : j < 128) : tw j = 2 * j := by
  unfold tw
  rw [Nat.testBit_lt_two_pow (i := 7) (by omega), Nat.shiftLeft_eq]
  simp; omega
theorem gm_even (c j : Nat) (hc : c < 256) (h : j < 128) : gm c (2 * j) = tw (gm c j) := by
  rw [← tw_small j h, tw_eq _ (by omega), tw_eq _ (gm_lt c j hc), gm_assoc c j 2 hc (by omega) (by omega)]
theorem gm_odd (c j : Nat) (hc : c < 256) (h : j < 128) : gm c (2 * j + 1) = tw (gm c j) ^^^ c := by
  have e : 2 * j + 1 = (2 * j) ^^^ 1 := by
    apply Nat.eq_of_testBit_eq; intro i
    rw [Nat.testBit_xor]
    cases i with
    | zero => simp [Nat.testBit_zero]
    | succ i => simp [Nat.testBit_succ]; congr 1; omega
  rw [e, gm_xor_right, gm_even c j hc h, gm_one c hc]
theorem gm_row (c i : Nat) (hc : c < 256) (hi : i < 256) : gm c i = if i % 2 = 1 then tw (gm c (i / 2)) ^^^ c else tw (gm c (i / 2)) := by
  split
  · have e : i = 2 * (i / 2) + 1 := by omega
    rw [e]
    rw [gm_odd c (i / 2) hc (by omega)]
    congr 3; omega
  · have e : i = 2 * (i / 2) := by omega
    rw [e]
    rw [gm_even c (i / 2) hc (by omega)]
    congr 2
    omega

/-! powers -/
def gpow (a : Nat) : Nat → Nat
  | 0 => 1
  | n+1 => gm (gpow a n) a
theorem gpow_lt (a n : Nat) : gpow a n < 256 := by
  cases n with
  | zero => simp [gpow]
  | succ n =>
    induction n with
    | zero => exact gm_lt 1 a (by omega)
    | succ n ih => exact gm_lt _ _ ih
theorem gpow_one (a : Nat) (ha : a < 256) : gpow a 1 = a := one_gm a ha
theorem gpow_add (a n m : Nat) (ha : a < 256) : gpow a (n + m) = gm (gpow a n) (gpow a m) := by
  induction m with
  | zero => rw [Nat.add_zero]; exact (gm_one _ (gpow_lt a n)).symm
  | succ m ih =>
    show gm (gpow a (n + m)) a = gm (gpow a n) (gm (gpow a m) a)
    rw [ih, gm_assoc _ _ _ (gpow_lt a n) (gpow_lt a m) ha]
theorem gpow_mul (a n m : Nat) (ha : a < 256) : gpow a (n * m) = gpow (gpow a n) m := by
  induction m with
  | zero => rfl
  | succ m ih => rw [Nat.mul_succ, gpow_add a _ _ ha, ih]; rfl
theorem one_gpow (n : Nat) : gpow 1 n = 1 := by
  induction n with
  | zero => rfl
  | succ n ih => show gm (gpow 1 n) 1 = 1; rw [ih]; exact one_gm 1 (by omega)
theorem zero_gpow (n : Nat) (h : n ≠ 0) : gpow 0 n = 0 := by
  cases n with
  | zero => exact absurd rfl h
  | succ n => exact gm_zero _
theorem gpow_two (a : Nat) (ha : a < 256) : gpow a 2 = gm a a := by
  show gm (gm 1 a) a = _
  rw [one_gm a ha]
theorem gpow_double (a n : Nat) (ha : a < 256) : gpow a (2 * n) = gpow (gm a a) n := by rw [gpow_mul a 2 n ha, gpow_two a ha]
theorem sq_gpow (a n : Nat) (ha : a < 256) : sq (gpow a n) = gpow a (n + n) := (gpow_add a n n ha).symm
theorem inv_eq_gpow (a : Nat) (ha : a < 256) : inv a = gpow a 254 := by
  have e1 : a = gpow a 1 := (gpow_one a ha).symm
  have e2 : sq a = gpow a 2 := (gpow_two a ha).symm
  unfold inv
  simp only [e2, sq_gpow a _ ha, ← gpow_add a _ _ ha]
theorem gpow_255 (a : Nat) (h0 : a ≠ 0) (ha : a < 256) : gpow a 255 = 1 := by
  show gm (gpow a 254) a = 1
  rw [← inv_eq_gpow a ha, gm_comm _ a (inv_lt a ha) ha, gm_inv a h0 ha]
theorem gpow_mod (a n : Nat) (h0 : a ≠ 0) (ha : a < 256) : gpow a (n % 255) = gpow a n := by
  have e : n = 255 * (n / 255) + n % 255 := by omega
  rw [e, gpow_add a _ _ ha, gpow_mul a 255 _ ha, gpow_255 a h0 ha, one_gpow, one_gm _ (gpow_lt _ _)]
  congr 1; omega
theorem gpow_ne_zero (a n : Nat) (h0 : a ≠ 0) (ha : a < 256) : gpow a n ≠ 0 := by
  intro h
  have e : gpow a (n * 255) = 0 := by rw [gpow_mul a n 255 ha, h]; rfl
  rw [Nat.mul_comm, gpow_mul a 255 n ha, gpow_255 a h0 ha, one_gpow] at e
  cases e

/-- the power by squares: what the loop keeps -/
theorem gpow_step_odd (o a n : Nat) (ho : o < 256) (ha : a < 256) (h : n % 2 = 1) : gm (gm o a) (gpow (gm a a) (n / 2)) = gm o (gpow a n) := by
  have e : n = 2 * (n / 2) + 1 := by omega
  have e2 : gpow a n = gm (gpow a (2 * (n / 2))) a := by
    rw [e]
    rw [gpow]
    congr 2; omega
  rw [e2, ← gpow_double a _ ha, gm_assoc o a _ ho ha (gpow_lt _ _), gm_comm a _ ha (gpow_lt _ _)]
theorem gpow_step_even (o a n : Nat) (ha : a < 256) (h : ¬ n % 2 = 1) : gm o (gpow (gm a a) (n / 2)) = gm o (gpow a n) := by
  rw [← gpow_double a _ ha, show 2 * (n / 2) = n by omega]

/-! the powers of 2 -/
def twN : Nat → Nat → Nat
  | 0, x => x
  | n+1, x => twN n (tw x)
theorem twN_gpow (n : Nat) : ∀ k, twN n (gpow 2 k) = gpow 2 (k + n) := by
  induction n with
  | zero => intro k; rfl
  | succ n ih =>
    intro k
    show twN n (tw (gpow 2 k)) = _
    rw [tw_eq _ (gpow_lt 2 k)]
    show twN n (gpow 2 (k + 1)) = _
    rw [ih]; congr 1; omega
/-- no power of 2 between the first and the 255th is 1 -/
def noneOne : Nat → Nat → Bool
  | 0, _ => true
  | n+1, x => !(Nat.beq x 1) && noneOne n (tw x)
theorem noneOne_all : noneOne 254 2 = true := by decide +kernel
theorem noneOne_spec (n : Nat) : ∀ k, noneOne n (gpow 2 k) = true → ∀ i, i < n → gpow 2 (k + i) ≠ 1 := by
  induction n with
  | zero => intro k _ i hi; omega
  | succ n ih =>
    intro k h i hi
    simp only [noneOne, Bool.and_eq_true, Bool.not_eq_true'] at h
    rw [tw_eq _ (gpow_lt 2 k)] at h
    cases i with
    | zero => intro he; rw [Nat.add_zero] at he; rw [he] at h; exact absurd h.1 (by decide)
    | succ i =>
      have h2 := ih (k + 1) h.2 i (by omega)
      rw [show k + (i + 1) = k + 1 + i by omega]; exact h2
theorem gpow2_ne_one (n : Nat) (h1 : 0 < n) (h2 : n < 255) : gpow 2 n ≠ 1 := by
  have h := noneOne_spec 254 1 noneOne_all (n - 1) (by omega)
  rw [show 1 + (n - 1) = n by omega] at h; exact h
theorem gpow2_lt (n m : Nat) (h : n < m) (hm : m < 255) : gpow 2 n ≠ gpow 2 m := by
  intro he
  have e : gpow 2 (m + (255 - n)) = 1 := by
    rw [gpow_add 2 _ _ (by omega), ← he, ← gpow_add 2 _ _ (by omega), show n + (255 - n) = 255 by omega]
    exact gpow_255 2 (by omega) (by omega)
  rw [← gpow_mod 2 _ (by omega) (by omega)] at e
  exact gpow2_ne_one _ (by omega) (by omega) e
theorem gpow2_inj (n m : Nat) (hn : n < 255) (hm : m < 255) (h : gpow 2 n = gpow 2 m) : n = m := by
  rcases Nat.lt_trichotomy n m with hl | hl | hl
  · exact absurd h (gpow2_lt n m hl hm)
  · exact hl
  · exact absurd h.symm (gpow2_lt m n hl hn)
/-- the logarithm: how many steps from x on -/
def logGo : Nat → Nat → Nat → Nat
  | 0, _, _ => 0
  | n+1, x, a => if x = a then 0 else logGo n (tw x) a + 1
def glog (a : Nat) : Nat := logGo 255 1 a
def logOk (a : Nat) : Bool := Nat.blt (glog a) 255 && Nat.beq (twN (glog a) 1) a
theorem glog_all : allUpto 255 (fun a => logOk (a + 1)) = true := by decide +kernel
theorem glog_lt (a : Nat) (h0 : a ≠ 0) (ha : a < 256) : glog a < 255 := by
  have h := of_allUpto _ 255 glog_all (a - 1) (by omega)
  rw [show a - 1 + 1 = a by omega] at h
  simp only [logOk, Bool.and_eq_true, Nat.blt_eq] at h; exact h.1
theorem gpow_glog (a : Nat) (h0 : a ≠ 0) (ha : a < 256) : gpow 2 (glog a) = a := by
  have h := of_allUpto _ 255 glog_all (a - 1) (by omega)
  rw [show a - 1 + 1 = a by omega] at h
  simp only [logOk, Bool.and_eq_true] at h
  have h2 := Nat.eq_of_beq_eq_true h.2
  have h3 := twN_gpow (glog a) 0
  rw [Nat.zero_add] at h3
  rw [← h3]; exact h2

/-! inverses, quotients, logarithms as the functions tell them -/
/-- the inverse, kept behind a name -/
@[irreducible] def invV (a : Nat) : Nat := gpow a 254
theorem invV_eq (a : Nat) : invV a = gpow a 254 := by unfold invV; rfl
theorem invV_lt (a : Nat) : invV a < 256 := by rw [invV_eq]; exact gpow_lt _ _
theorem invV_zero : invV 0 = 0 := by rw [invV_eq]; exact zero_gpow 254 (by omega)
def e13 (a : Nat) : Int := if a = 0 then 13 else 0
def divV (a b : Nat) : Nat := gm a (invV b)
def logV (a : Nat) : Nat := if a = 0 then 0 else glog a
theorem gm_invV (a : Nat) (h0 : a ≠ 0) (ha : a < 256) : gm a (invV a) = 1 := by rw [invV_eq, ← inv_eq_gpow a ha, gm_inv a h0 ha]
theorem gm_cancel (a x y : Nat) (h0 : a ≠ 0) (ha : a < 256) (hx : x < 256) (hy : y < 256) (h : gm a x = gm a y) : x = y := by
  have e : ∀ z, z < 256 → gm (invV a) (gm a z) = z := fun z hz => by
    rw [← gm_assoc _ _ _ (invV_lt _) ha hz, gm_comm _ a (invV_lt _) ha, gm_invV a h0 ha, one_gm z hz]
  rw [← e x hx, h, e y hy]
theorem inv_unique (a x : Nat) (ha : a < 256) (hx : x < 256) (h : gm a x = 1) : x = invV a := by
  have h0 : a ≠ 0 := by rintro rfl; rw [zero_gm] at h; cases h
  exact gm_cancel a _ _ h0 ha hx (invV_lt _) (by rw [h, gm_invV a h0 ha])
theorem divV_lt (a b : Nat) (ha : a < 256) : divV a b < 256 := gm_lt _ _ ha
theorem gm_divV (a b : Nat) (h0 : b ≠ 0) (ha : a < 256) (hb : b < 256) : gm b (divV a b) = a := by
  unfold divV
  rw [gm_comm a _ ha (invV_lt _), ← gm_assoc _ _ _ hb (invV_lt _) ha, gm_invV b h0 hb, one_gm a ha]
theorem div_unique (a b x : Nat) (h0 : b ≠ 0) (ha : a < 256) (hb : b < 256) (hx : x < 256) (h : gm b x = a) : x = divV a b :=
  gm_cancel b _ _ h0 hb hx (divV_lt a b ha) (by rw [h, gm_divV a b h0 ha hb])
theorem divV_zero (a : Nat) : divV a 0 = 0 := by
  unfold divV
  rw [invV_zero, gm_zero]
theorem divV_gm (a b : Nat) (h0 : b ≠ 0) (ha : a < 256) (hb : b < 256) : divV (gm a b) b = a := by
  unfold divV
  rw [gm_assoc _ _ _ ha hb (invV_lt _), gm_invV b h0 hb, gm_one a ha]
theorem invV_pos (a : Nat) (h0 : a ≠ 0) (ha : a < 256) : 0 < invV a := by
  rw [invV_eq]
  have := gpow_ne_zero a 254 h0 ha
  omega

/-! the reference's product: polynomials -/
def upGo : Nat → Nat → Nat → Nat → Nat
  | 0, _, _, p => p
  | k+1, x, b, p => upGo k x b (if (b >>> (7 - k)) % 2 = 1 then p ^^^ (x <<< (7 - k)) else p)
def downGo : Nat → Nat → Nat
  | 0, p => p
  | k+1, p => downGo k (if (p >>> (k + 8)) % 2 = 1 then p ^^^ (285 <<< k) else p)
def rm (a b : Nat) : Nat := downGo 7 (upGo 8 a b 0)
theorem shr_mod_xor (p q k : Nat) : ((p ^^^ q) >>> k) % 2 = ((p >>> k) % 2) ^^^ ((q >>> k) % 2) := by rw [Nat.shiftRight_xor_distrib, mod_xor]
theorem upGo_xor_left (k : Nat) : ∀ x y b p q : Nat, upGo k (x ^^^ y) b (p ^^^ q) = upGo k x b p ^^^ upGo k y b q := by
  induction k with
  | zero => intros; rfl
  | succ k ih =>
    intro x y b p q
    simp only [upGo]
    split
    · rw [← ih, Nat.shiftLeft_xor_distrib, xor4]
    · rw [← ih]
theorem upGo_xor_right (k : Nat) : ∀ x b c p q : Nat, upGo k x (b ^^^ c) (p ^^^ q) = upGo k x b p ^^^ upGo k x c q := by
  induction k with
  | zero => intros; rfl
  | succ k ih =>
    intro x b c p q
    simp only [upGo]
    rw [shr_mod_xor]
    rcases Nat.mod_two_eq_zero_or_one (b >>> (7 - k)) with h | h <;> rcases Nat.mod_two_eq_zero_or_one (c >>> (7 - k)) with h' | h' <;> simp only [h, h'] <;> simp only [Nat.reduceXor, if_true, if_false, Nat.zero_ne_one] <;> rw [← ih]
    · congr 1
      rw [Nat.xor_assoc]
    · congr 1
      rw [Nat.xor_assoc, Nat.xor_assoc, Nat.xor_comm _ q]
    · congr 1
      rw [xor4, Nat.xor_self, Nat.xor_zero]
theorem downGo_xor (k : Nat) : ∀ p q : Nat, downGo k (p ^^^ q) = downGo k p ^^^ downGo k q := by
  induction k with
  | zero => intros; rfl
  | succ k ih =>
    intro p q
    simp only [downGo]
    rw [shr_mod_xor]
    rcases Nat.mod_two_eq_zero_or_one (p >>> (k + 8)) with h | h <;> rcases Nat.mod_two_eq_zero_or_one (q >>> (k + 8)) with h' | h' <;> simp only [h, h'] <;> simp only [Nat.reduceXor, if_true, if_false, Nat.zero_ne_one] <;> rw [← ih]
    · congr 1
      rw [Nat.xor_assoc]
    · congr 1
      rw [Nat.xor_assoc, Nat.xor_assoc, Nat.xor_comm _ q]
    · congr 1
      rw [xor4, Nat.xor_self, Nat.xor_zero]
theorem basis_rm : allUpto 8 (fun i => allUpto 8 fun j => Nat.beq (rm (2 ^ i) (2 ^ j)) (gm (2 ^ i) (2 ^ j))) = true := by decide +kernel
theorem rm_eq (a b : Nat) (ha : a < 256) (hb : b < 256) : rm a b = gm a b := by
  have hl : ∀ x y c, rm (x ^^^ y) c = rm x c ^^^ rm y c := fun x y c => by
    unfold rm
    rw [← downGo_xor, ← upGo_xor_left, Nat.xor_self]
  have hr : ∀ c x y, rm c (x ^^^ y) = rm c x ^^^ rm c y := fun c x y => by
    unfold rm
    rw [← downGo_xor, ← upGo_xor_right, Nat.xor_self]
  refine lin_ext 8 (fun a => rm a b) (fun a => gm a b) (fun x y _ _ => hl x y b) (fun x y _ _ => gm_xor_left x y b) (fun i hi => ?_) a ha
  refine lin_ext 8 (fun b => rm (2 ^ i) b) (fun b => gm (2 ^ i) b) (fun x y _ _ => hr _ x y) (fun x y _ _ => gm_xor_right _ x y) (fun j hj => ?_) b hb
  exact Nat.eq_of_beq_eq_true (of_allUpto _ 8 (of_allUpto _ 8 basis_rm i hi) j hj)

end Gfp
end Go.Proofs.YtjbedcgacnnanaaDoor

namespace Go.Proofs.YtjbedcgacnnanaaDoor
open Go.RowKit

theorem ret_int {k : IntKind} {a b : Int} (h : a = b) : Ending.returned (.int k a) = .returned (.int k b) := by rw [h]
theorem ret_bool {a b : Bool} (h : a = b) : Ending.returned (.bool a) = .returned (.bool b) := by rw [h]
theorem ret_two {k l : IntKind} {a b c d : Int} (h : a = c) (h2 : b = d) : Ending.returned (.tuple #[.int k a, .int l b]) = .returned (.tuple #[.int k c, .int l d]) := by rw [h, h2]
theorem u8_hi (a : Nat) (ha : a < 256) : (bits .and .u8 (a : Int) 128 != 0) = a.testBit 7 := by
  rw [show (128 : Int) = ((128 : Nat) : Int) from rfl, u8_and_nat a 128 ha (by omega), nat_bit 7 a, Nat.testBit_eq_decide_div_mod_eq]
  rcases Nat.mod_two_eq_zero_or_one (a / 2 ^ 7) with h | h <;> rw [h] <;> rfl
theorem u8_lo (a : Nat) (ha : a < 256) : bits .and .u8 (a : Int) 1 = ((a % 2 : Nat) : Int) := by
  rw [show (1 : Int) = ((1 : Nat) : Int) from rfl, u8_and_nat a 1 ha (by omega), nat_mask1]
theorem u8_xor_lit (a b : Nat) (ha : a < 256) (hb : b < 256) : bits .xor .u8 (a : Int) (b : Int) = ((a ^^^ b : Nat) : Int) := u8_xor_nat a b ha hb
theorem ofInt_i64 (a : Nat) (ha : a < 9223372036854775808) : (BitVec.ofInt 64 (a : Int)).toNat = a := by
  rw [BitVec.ofInt_natCast, BitVec.toNat_ofNat]; exact Nat.mod_eq_of_lt (by omega)
theorem i64_and_nat (a b : Nat) (ha : a < 9223372036854775808) (hb : b < 9223372036854775808) : bits .and .i64 (a : Int) (b : Int) = ((a &&& b : Nat) : Int) := by
  have hx : a &&& b < 2 ^ 63 := Nat.and_lt_two_pow _ (by omega)
  show IntKind.i64.wrap ((BitVec.ofInt 64 (a : Int) &&& BitVec.ofInt 64 (b : Int)).toNat : Int) = _
  rw [BitVec.toNat_and, ofInt_i64 a ha, ofInt_i64 b hb, IntKind.wrap_i64]
  omega
theorem i64_or_nat (a b : Nat) (ha : a < 9223372036854775808) (hb : b < 9223372036854775808) : bits .or .i64 (a : Int) (b : Int) = ((a ||| b : Nat) : Int) := by
  have hx : a ||| b < 2 ^ 63 := Nat.or_lt_two_pow (by omega) (by omega)
  show IntKind.i64.wrap ((BitVec.ofInt 64 (a : Int) ||| BitVec.ofInt 64 (b : Int)).toNat : Int) = _
  rw [BitVec.toNat_or, ofInt_i64 a ha, ofInt_i64 b hb, IntKind.wrap_i64]
  omega
theorem i64_xor_nat (a b : Nat) (ha : a < 9223372036854775808) (hb : b < 9223372036854775808) : bits .xor .i64 (a : Int) (b : Int) = ((a ^^^ b : Nat) : Int) := by
  have hx : a ^^^ b < 2 ^ 63 := Nat.xor_lt_two_pow (by omega) (by omega)
  show IntKind.i64.wrap ((BitVec.ofInt 64 (a : Int) ^^^ BitVec.ofInt 64 (b : Int)).toNat : Int) = _
  rw [BitVec.toNat_xor, ofInt_i64 a ha, ofInt_i64 b hb, IntKind.wrap_i64]
  omega
theorem shr_cast (b i : Nat) : ((b : Int) / 2 ^ i) = ((b >>> i : Nat) : Int) := by
  rw [Nat.shiftRight_eq_div_pow]; simp
theorem shr_odd (b i : Nat) : (((b : Int) / 2 ^ i).tmod 2 == 1) = decide ((b >>> i) % 2 = 1) := by
  rw [shr_cast]
  generalize b >>> i = n
  rw [Int.tmod_eq_emod_of_nonneg (by omega)]
  by_cases h : n % 2 = 1
  · simp [h]; omega
  · simp [h]; omega
theorem shl_cast (a i : Nat) : ((a : Int) * 2 ^ i) = ((a <<< i : Nat) : Int) := by
  rw [Nat.shiftLeft_eq]; simp
theorem wrap64_nat (n : Nat) (h : n < 9223372036854775808) : wrap64 (n : Int) = (n : Int) := IntWalk.wrap64_in n ⟨by omega, by omega⟩
theorem shl_small (a i m : Nat) (ha : a < 2 ^ m) (hi : i + m ≤ 62) : a <<< i < 4611686018427387904 := by
  rw [Nat.shiftLeft_eq]
  exact calc a * 2 ^ i < 2 ^ m * 2 ^ i := Nat.mul_lt_mul_of_pos_right ha (Nat.two_pow_pos i)
    _ = 2 ^ (m + i) := (Nat.pow_add 2 m i).symm
    _ ≤ 2 ^ 62 := Nat.pow_le_pow_right (by omega) (by omega)
theorem u64_lo (a : Nat) (ha : a < 18446744073709551616) : bits .and .u64 (a : Int) 1 = ((a % 2 : Nat) : Int) := by
  rw [show (1 : Int) = ((1 : Nat) : Int) from rfl, u64_and_nat a 1 ha (by omega), nat_mask1]
theorem u32_lo (a : Nat) (ha : a < 4294967296) : bits .and .u32 (a : Int) 1 = ((a % 2 : Nat) : Int) := by
  rw [show (1 : Int) = ((1 : Nat) : Int) from rfl, u32_and_nat a 1 ha (by omega), nat_mask1]
end Go.Proofs.YtjbedcgacnnanaaDoor

namespace Go.Proofs.YtjbedcgacnnanaaDoor
open Go.RowKit

theorem twice_any (a : Nat) (w : World) (ha : a < 256) :
    Calls Tryd.prog 82 #[.int .u8 a] w fun e w' => e = .returned (.int .u8 (Gfp.tw a)) ∧ w = w' := by
  have hb := u8_hi a ha
  have hx : bits .xor .u8 ((a : Int) * 2 % 256) 29 = (((a * 2 % 256) ^^^ 29 : Nat) : Int) := u8_xor_nat (a * 2 % 256) 29 (by omega) (by omega)
  by_cases h : a.testBit 7 = true
  · rw [h] at hb
    go_enter Tryd.func82, Tryd.ntmps82
    go_wp2
    go_ret
    exact ⟨ret_int (by rw [Gfp.tw, if_pos h, Nat.shiftLeft_eq]), rfl⟩
  · have h' : a.testBit 7 = false := by simpa using h
    rw [h'] at hb
    go_enter Tryd.func82, Tryd.ntmps82
    go_wp2
    go_ret
    exact ⟨ret_int (by rw [Gfp.tw, if_neg h, Nat.shiftLeft_eq]; omega), rfl⟩

theorem mul_any (a b : Nat) (w : World) (ha : a < 256) (hb : b < 256) :
    Calls Tryd.prog 81 #[.int .u8 a, .int .u8 b] w fun e w' => e = .returned (.int .u8 (Gfp.gm a b)) ∧ w = w' := by
  go_enter Tryd.func81, Tryd.ntmps81
  go_wp2
  go_loop [0, 1, 5] (fun x y o => ∃ k x' y' o' : Nat, x = .int .u8 x' ∧ y = .int .u8 y' ∧ o = .int .u8 o' ∧ x' < 256 ∧ y' < 256 ∧ o' < 256 ∧ y' < 2 ^ k ∧ Gfp.mulGo k x' y' o' = Gfp.gm a b) (fun _ y _ => (intOf y).toNat)
  case atStart => exact ⟨8, a, b, 0, rfl, rfl, rfl, ha, hb, by omega, hb, rfl⟩
  case round =>
    obtain ⟨k, x, y, o, rfl, rfl, rfl, hx, hy, ho, hk, hm⟩ := hrel
    have Hm := Lib.hid hm; clear hm
    by_cases h0 : y = 0
    · have Hr : Hid (o = Gfp.gm a b) := by
        have h := Hm.out
        rw [h0, Gfp.mulGo_zero] at h; exact h
      have hz : ((y : Int) != 0) = false := by simp [h0]
      clear h0
      go_wp2
      go_ret
      exact ⟨ret_int (by rw [Hr.out]), rfl⟩
    · obtain ⟨k, rfl⟩ : ∃ j, k = j + 1 := by
        cases k with
        | zero => exact absurd hk (by simp; omega)
        | succ j => exact ⟨j, rfl⟩
      have hk2 : y / 2 < 2 ^ k := by rw [Nat.pow_succ] at hk; omega
      have hz : ((y : Int) != 0) = true := by simp [h0]
      have hl := u8_lo y hy
      have hxo := u8_xor_nat o x ho hx
      have ho2 : o ^^^ x < 256 := Nat.xor_lt_two_pow (n := 8) ho hx
      have hy1 : 1 ≤ y := by omega
      clear h0 hk
      by_cases h1 : y % 2 = 1
      · have h2 : (bits .and .u8 (y : Int) 1 == 1) = true := by rw [hl, h1]; rfl
        have H2 : Hid (Gfp.mulGo k (Gfp.tw x) (y / 2) (o ^^^ x) = Gfp.gm a b) := by
          have h := Hm.out
          rw [Gfp.mulGo, if_pos h1] at h; exact h
        clear h1 hl
        go_wp2_with (go_at_call 82; refine (twice_any _ _ hx).mono ?_; rintro e w' ⟨rfl, rfl⟩)
        go_round
        case rel => exact ⟨k, Gfp.tw x, y / 2, o ^^^ x, rfl, rfl, rfl, Gfp.tw_lt x, by omega, ho2, hk2, H2.out⟩
        case measure => simp [intOf]; omega
      · have h2 : (bits .and .u8 (y : Int) 1 == 1) = false := by rw [hl]; simp; omega
        have H2 : Hid (Gfp.mulGo k (Gfp.tw x) (y / 2) o = Gfp.gm a b) := by
          have h := Hm.out
          rw [Gfp.mulGo, if_neg h1] at h; exact h
        clear h1 hl
        go_wp2_with (go_at_call 82; refine (twice_any _ _ hx).mono ?_; rintro e w' ⟨rfl, rfl⟩)
        go_round
        case rel => exact ⟨k, Gfp.tw x, y / 2, o, rfl, rfl, rfl, Gfp.tw_lt x, by omega, ho, hk2, H2.out⟩
        case measure => simp [intOf]; omega

theorem refMul_any (a b : Nat) (w : World) (ha : a < 256) (hb : b < 256) :
    Calls Tryd.prog 62 #[.int .u8 a, .int .u8 b] w fun e w' => e = .returned (.int .u8 (Gfp.gm a b)) ∧ w = w' := by
  go_enter Tryd.func62, Tryd.ntmps62
  go_wp2
  go_loop [5, 7] (fun p i => ∃ k p' : Nat, p = .int .i64 p' ∧ i = .int .i64 k ∧ k ≤ 8 ∧ p' < 65536 ∧ Gfp.upGo (8 - k) a b p' = Gfp.upGo 8 a b 0) (fun _ i => 8 - (intOf i).toNat)
  case atStart => exact ⟨0, 0, rfl, rfl, by omega, by omega, rfl⟩
  case round =>
    obtain ⟨k, p, rfl, rfl, hk, hp, hm⟩ := hrel
    by_cases h8 : k < 8
    · have hs : Gfp.upGo (8 - (k + 1)) a b (if (b >>> k) % 2 = 1 then p ^^^ (a <<< k) else p) = Gfp.upGo 8 a b 0 := by
        rw [← hm, show 8 - k = (8 - (k + 1)) + 1 by omega, Gfp.upGo, show 7 - (8 - (k + 1)) = k by omega]
      have hsl := shl_small a k 8 (by omega) (by omega)
      have hsl2 : a <<< k < 65536 := by
        rw [Nat.shiftLeft_eq]
        have : 2 ^ k ≤ 2 ^ 7 := Nat.pow_le_pow_right (by omega) (by omega)
        have := Nat.mul_lt_mul'' ha (show 2 ^ k < 2 ^ 8 by omega)
        omega
      have ho := shr_odd b k
      have hw : wrap64 ((a : Int) * 2 ^ k) = ((a <<< k : Nat) : Int) := by rw [shl_cast, wrap64_nat _ (by omega)]
      have hx := i64_xor_nat p (a <<< k) (by omega) (by omega)
      have hx2 : p ^^^ (a <<< k) < 65536 := Nat.xor_lt_two_pow (n := 16) hp hsl2
      clear hm hsl hsl2
      generalize a <<< k = sh at hs hw hx hx2
      by_cases hb1 : (b >>> k) % 2 = 1
      · rw [if_pos hb1] at hs
        have Hs := Lib.hid hs; clear hs
        rw [decide_eq_true hb1] at ho
        clear hb1
        go_wp2
        go_round
        case rel => exact ⟨k + 1, p ^^^ sh, rfl, by go_num, by omega, hx2, Hs.out⟩
        case measure => simp [intOf]; omega
      · rw [if_neg hb1] at hs
        have Hs := Lib.hid hs; clear hs
        rw [decide_eq_false hb1] at ho
        clear hb1
        go_wp2
        go_round
        case rel => exact ⟨k + 1, p, rfl, by go_num, by omega, hp, Hs.out⟩
        case measure => simp [intOf]; omega
    · obtain rfl : k = 8 := by omega
      have Hm : Hid (Gfp.downGo 7 p = Gfp.gm a b) := by
        rw [← Gfp.rm_eq a b ha hb, Gfp.rm, ← hm]; rfl
      clear hm hk h8
      go_wp2
      go_loop [5, 8] (fun p i => ∃ k p' : Nat, p = .int .i64 p' ∧ i = .int .i64 k ∧ 7 ≤ k ∧ k ≤ 14 ∧ p' < 65536 ∧ Gfp.downGo (k - 7) p' = Gfp.gm a b) (fun _ i => (intOf i).toNat)
      case atStart => exact ⟨14, p, rfl, rfl, by omega, by omega, hp, Hm.out⟩
      case round =>
        obtain ⟨k, p, rfl, rfl, hk7, hk, hp, hm⟩ := hrel
        by_cases h8 : 8 ≤ k
        · have hs : Gfp.downGo (k - 1 - 7) (if (p >>> k) % 2 = 1 then p ^^^ (285 <<< (k - 8)) else p) = Gfp.gm a b := by
            rw [← hm, show k - 7 = (k - 1 - 7) + 1 by omega, Gfp.downGo, show k - 1 - 7 + 8 = k by omega, show k - 1 - 7 = k - 8 by omega]
          have hsl2 : 285 <<< (k - 8) < 65536 := by
            rw [Nat.shiftLeft_eq]
            have : 2 ^ (k - 8) ≤ 2 ^ 6 := Nat.pow_le_pow_right (by omega) (by omega)
            omega
          have ho := shr_odd p k
          have hw : wrap64 (285 * 2 ^ (k - 8)) = ((285 <<< (k - 8) : Nat) : Int) := by
            rw [show (285 : Int) = ((285 : Nat) : Int) from rfl, shl_cast, wrap64_nat _ (by omega)]
          have hx := i64_xor_nat p (285 <<< (k - 8)) (by omega) (by omega)
          have hx2 : p ^^^ (285 <<< (k - 8)) < 65536 := Nat.xor_lt_two_pow (n := 16) hp hsl2
          clear hm hsl2
          generalize 285 <<< (k - 8) = sh at hs hw hx hx2
          by_cases hb1 : (p >>> k) % 2 = 1
          · rw [if_pos hb1] at hs
            have Hs := Lib.hid hs; clear hs
            rw [decide_eq_true hb1] at ho
            clear hb1
            go_wp2
            go_round
            case rel => exact ⟨k - 1, p ^^^ sh, rfl, by go_num, by omega, by omega, hx2, Hs.out⟩
            case measure => simp [intOf]; omega
          · rw [if_neg hb1] at hs
            have Hs := Lib.hid hs; clear hs
            rw [decide_eq_false hb1] at ho
            clear hb1
            go_wp2
            go_round
            case rel => exact ⟨k - 1, p, rfl, by go_num, by omega, by omega, hp, Hs.out⟩
            case measure => simp [intOf]; omega
        · obtain rfl : k = 7 := by omega
          have Hs : Hid (p = Gfp.gm a b) := hm
          clear hm
          go_wp2
          go_ret
          exact ⟨ret_int (by have h := Hs.out; have := Gfp.gm_lt a b ha; omega), rfl⟩

theorem pow_any (a n : Nat) (w : World) (ha : a < 256) :
    Calls Tryd.prog 72 #[.int .u8 a, .int .u64 n] w fun e w' => e = .returned (.int .u8 (Gfp.gpow a n)) ∧ w = w' := by
  by_cases h0 : n = 0
  · have hn : ((n : Int) == 0) = true := by simp [h0]
    have Hr : Hid (Gfp.gpow a n = 1) := by rw [h0]; rfl
    clear h0
    go_enter Tryd.func72, Tryd.ntmps72
    go_wp2
    go_ret
    exact ⟨ret_int (by rw [Hr.out]; rfl), rfl⟩
  · have hn : ((n : Int) == 0) = false := by simp [h0]
    by_cases h1 : a = 0
    · have hz : ((a : Int) == 0) = true := by simp [h1]
      have Hr : Hid (Gfp.gpow a n = 0) := by rw [h1]; exact Gfp.zero_gpow n h0
      clear h0 h1
      go_enter Tryd.func72, Tryd.ntmps72
      go_wp2
      go_ret
      exact ⟨ret_int (by rw [Hr.out]; rfl), rfl⟩
    · have hz : ((a : Int) == 0) = false := by simp [h1]
      have Hr : Hid (Gfp.gpow a (n % 255) = Gfp.gpow a n) := Gfp.gpow_mod a n h1 ha
      clear h0 h1
      go_enter Tryd.func72, Tryd.ntmps72
      go_wp2
      go_loop [0, 1, 5] (fun x y o => ∃ x' y' o' : Nat, x = .int .u8 x' ∧ y = .int .u64 y' ∧ o = .int .u8 o' ∧ x' < 256 ∧ y' < 256 ∧ o' < 256 ∧ Gfp.gm o' (Gfp.gpow x' y') = Gfp.gpow a (n % 255)) (fun _ y _ => (intOf y).toNat)
      case atStart => exact ⟨a, n % 255, 1, rfl, rfl, rfl, ha, by omega, by omega, Gfp.one_gm _ (Gfp.gpow_lt _ _)⟩
      case round =>
        obtain ⟨x, y, o, rfl, rfl, rfl, hx, hy, ho, hm⟩ := hrel
        have Hm := Lib.hid hm; clear hm
        by_cases hy0 : y = 0
        · have H2 : Hid (o = Gfp.gpow a n) := by
            have h := Hm.out
            rw [hy0, Gfp.gpow, Gfp.gm_one o ho, Hr.out] at h; exact h
          have hp : ¬ (0 : Int) < (y : Int) := by omega
          clear hy0
          go_wp2
          go_ret
          exact ⟨ret_int (by rw [H2.out]), rfl⟩
        · have hp : (0 : Int) < (y : Int) := by omega
          have hl := u64_lo y (by omega)
          have hoo := Gfp.gm_lt o x ho
          have hxx := Gfp.gm_lt x x hx
          clear hy0
          by_cases h1 : y % 2 = 1
          · have h2 : (bits .and .u64 (y : Int) 1 == 1) = true := by rw [hl, h1]; rfl
            have H2 : Hid (Gfp.gm (Gfp.gm o x) (Gfp.gpow (Gfp.gm x x) (y / 2)) = Gfp.gpow a (n % 255)) := (Gfp.gpow_step_odd o x y ho hx h1).trans Hm.out
            clear h1 hl
            go_wp2_with fail
            refine (mul_any _ _ _ ho hx).mono ?_; rintro e w' ⟨rfl, rfl⟩
            go_wp2_with fail
            refine (mul_any _ _ _ hx hx).mono ?_; rintro e w' ⟨rfl, rfl⟩
            go_wp2_with fail
            go_round
            case rel => exact ⟨Gfp.gm x x, y / 2, Gfp.gm o x, rfl, rfl, rfl, hxx, by omega, hoo, H2.out⟩
            case measure => simp [intOf]; omega
          · have h2 : (bits .and .u64 (y : Int) 1 == 1) = false := by rw [hl]; simp; omega
            have H2 : Hid (Gfp.gm o (Gfp.gpow (Gfp.gm x x) (y / 2)) = Gfp.gpow a (n % 255)) := (Gfp.gpow_step_even o x y hx h1).trans Hm.out
            clear h1 hl
            go_wp2_with fail
            refine (mul_any _ _ _ hx hx).mono ?_; rintro e w' ⟨rfl, rfl⟩
            go_wp2_with fail
            go_round
            case rel => exact ⟨Gfp.gm x x, y / 2, o, rfl, rfl, rfl, hxx, by omega, ho, H2.out⟩
            case measure => simp [intOf]; omega

theorem inv_any (a : Nat) (w : World) (ha : a < 256) :
    Calls Tryd.prog 58 #[.int .u8 a] w fun e w' => e = .returned (.tuple #[.int .u8 (Gfp.invV a), .int .i64 (Gfp.e13 a)]) ∧ w = w' := by
  by_cases h0 : a = 0
  · have hz : ((a : Int) == 0) = true := by simp [h0]
    have H : Hid (Gfp.invV a = 0 ∧ Gfp.e13 a = 13) := by rw [h0]; exact ⟨Gfp.invV_zero, rfl⟩
    clear h0
    go_enter Tryd.func58, Tryd.ntmps58
    go_wp2_with fail
    go_ret2
    exact ⟨ret_two (by rw [H.out.1]; rfl) (by rw [H.out.2]), rfl⟩
  · have hz : ((a : Int) == 0) = false := by simp [h0]
    have H : Hid (Gfp.e13 a = 0) := if_neg h0
    have H1 := pow_any a 254 w ha
    rw [← Gfp.invV_eq] at H1
    replace H1 := Lib.hid H1
    clear h0
    go_enter Tryd.func58, Tryd.ntmps58
    go_wp2_with fail; refine (H1.out).mono ?_; rintro e w' ⟨rfl, rfl⟩
    go_wp2_with fail
    go_ret2
    exact ⟨ret_two rfl (by rw [H.out]), rfl⟩

set_option maxRecDepth 100000 in
theorem refInv_any (a : Nat) (w : World) (ha : a < 256) :
    Calls Tryd.prog 61 #[.int .u8 a] w fun e w' => e = .returned (.tuple #[.int .u8 (Gfp.invV a), .int .i64 (Gfp.e13 a)]) ∧ w = w' := by
  go_enter Tryd.func61, Tryd.ntmps61
  go_wp2
  go_loop [4] (fun i => ∃ k : Nat, i = .int .i64 k ∧ 1 ≤ k ∧ k ≤ 256 ∧ (a ≠ 0 → k ≤ Gfp.invV a)) (fun i => (256 - intOf i).toNat)
  case atStart => exact ⟨1, rfl, by omega, by omega, fun h => Gfp.invV_pos a h ha⟩
  case round =>
    obtain ⟨k, rfl, hk1, hk, hm⟩ := hrel
    have Hm := Lib.hid hm; clear hm
    by_cases hlt : k < 256
    · have H1 := Lib.hid (refMul_any a k w ha hlt)
      by_cases h1 : Gfp.gm a k = 1
      · have hh : (((Gfp.gm a k : Nat) : Int) == 1) = true := by rw [h1]; rfl
        have Hr : Hid ((k : Int) = (Gfp.invV a : Nat)) := by rw [← Gfp.inv_unique a k ha hlt h1]; rfl
        have He : Hid (Gfp.e13 a = 0) := if_neg (by rintro rfl; rw [Gfp.zero_gm] at h1; cases h1)
        clear h1
        go_wp2_with fail; refine (H1.out).mono ?_; rintro e w' ⟨rfl, rfl⟩
        go_wp2_with fail
        go_ret2
        exact ⟨ret_two Hr.out (by rw [He.out]), rfl⟩
      · have hh : (((Gfp.gm a k : Nat) : Int) == 1) = false := by simp; omega
        have Hr : Hid (a ≠ 0 → k + 1 ≤ Gfp.invV a) := fun h => by
          have h2 := Hm.out h
          rcases Nat.lt_or_eq_of_le h2 with h3 | h3
          · exact h3
          · exact absurd (by rw [h3, Gfp.gm_invV a h ha]) h1
        clear h1
        go_wp2_with fail; refine (H1.out).mono ?_; rintro e w' ⟨rfl, rfl⟩
        go_wp2_with fail
        go_round
        case rel => exact ⟨k + 1, by go_num, by omega, by omega, Hr.out⟩
        case measure => simp [intOf]; omega
    · have H : Hid (Gfp.invV a = 0 ∧ Gfp.e13 a = 13) := by
        by_cases h0 : a = 0
        · rw [h0]; exact ⟨Gfp.invV_zero, rfl⟩
        · have := Hm.out h0
          have := Gfp.invV_lt a
          omega
      go_wp2_with fail
      go_ret2
      exact ⟨ret_two (by rw [H.out.1]; rfl) (by rw [H.out.2]), rfl⟩

end Go.Proofs.YtjbedcgacnnanaaDoor

namespace Go.Proofs.YtjbedcgacnnanaaDoor

def fm (a b : UInt8) : UInt8 := UInt8.ofNat (Gfp.gm a.toNat b.toNat)
theorem fm_toNat (a b : UInt8) : (fm a b).toNat = Gfp.gm a.toNat b.toNat := by
  unfold fm
  rw [UInt8.toNat_ofNat']
  exact Nat.mod_eq_of_lt (Gfp.gm_lt _ _ a.toNat_lt)
theorem u8_ext {a b : UInt8} (h : a.toNat = b.toNat) : a = b := UInt8.toNat_inj.1 h
theorem fm_comm (a b : UInt8) : fm a b = fm b a := u8_ext (by rw [fm_toNat, fm_toNat]; exact Gfp.gm_comm _ _ a.toNat_lt b.toNat_lt)
theorem fm_assoc (a b c : UInt8) : fm (fm a b) c = fm a (fm b c) := u8_ext (by simp only [fm_toNat]; exact Gfp.gm_assoc _ _ _ a.toNat_lt b.toNat_lt c.toNat_lt)
theorem fm_xor (a b c : UInt8) : fm a (b ^^^ c) = fm a b ^^^ fm a c := u8_ext (by simp only [fm_toNat, UInt8.toNat_xor]; exact Gfp.gm_xor_right _ _ _)
theorem xor_fm (a b c : UInt8) : fm (a ^^^ b) c = fm a c ^^^ fm b c := u8_ext (by simp only [fm_toNat, UInt8.toNat_xor]; exact Gfp.gm_xor_left _ _ _)
theorem fm_one (a : UInt8) : fm a 1 = a := u8_ext (by rw [fm_toNat]; exact Gfp.gm_one _ a.toNat_lt)
theorem one_fm (a : UInt8) : fm 1 a = a := by rw [fm_comm, fm_one]
theorem fm_zero (a : UInt8) : fm a 0 = 0 := u8_ext (by rw [fm_toNat]; exact Gfp.gm_zero _)
theorem zero_fm (a : UInt8) : fm 0 a = 0 := by rw [fm_comm, fm_zero]
def fi (a : UInt8) : UInt8 := UInt8.ofNat (Gfp.invV a.toNat)
theorem fi_toNat (a : UInt8) : (fi a).toNat = Gfp.invV a.toNat := by
  unfold fi
  rw [UInt8.toNat_ofNat']
  exact Nat.mod_eq_of_lt (Gfp.invV_lt _)
theorem fm_fi (a : UInt8) (h : a ≠ 0) : fm a (fi a) = 1 := u8_ext (by
  rw [fm_toNat, fi_toNat]
  exact Gfp.gm_invV _ (fun h0 => h (u8_ext h0)) a.toNat_lt)
theorem fi_fm (a : UInt8) (h : a ≠ 0) : fm (fi a) a = 1 := by rw [fm_comm, fm_fi a h]
theorem fi_zero : fi 0 = 0 := u8_ext (by rw [fi_toNat]; exact Gfp.invV_zero)
theorem fm_eq_zero (a b : UInt8) (h : fm a b = 0) : a = 0 ∨ b = 0 := by
  have h2 : Gfp.gm a.toNat b.toNat = 0 := by rw [← fm_toNat, h]; rfl
  rcases Gfp.gm_eq_zero _ _ a.toNat_lt b.toNat_lt h2 with h3 | h3
  · exact .inl (u8_ext h3)
  · exact .inr (u8_ext h3)
theorem fx_self (a : UInt8) : a ^^^ a = 0 := UInt8.xor_self
theorem fx_zero (a : UInt8) : a ^^^ 0 = a := UInt8.xor_zero
theorem zero_fx (a : UInt8) : 0 ^^^ a = a := UInt8.zero_xor
theorem fx_comm (a b : UInt8) : a ^^^ b = b ^^^ a := UInt8.xor_comm a b
theorem fx_assoc (a b c : UInt8) : a ^^^ b ^^^ c = a ^^^ (b ^^^ c) := UInt8.xor_assoc a b c
theorem fx_cancel (a b : UInt8) (h : a ^^^ b = 0) : a = b := by
  have h2 : a ^^^ b ^^^ b = b := by rw [h, zero_fx]
  rwa [fx_assoc, fx_self, fx_zero] at h2

/-- the sum of the first k products -/
def dotF (xs ys : List UInt8) : Nat → UInt8
  | 0 => 0
  | k+1 => dotF xs ys k ^^^ fm (xs.getD k 0) (ys.getD k 0)
/-- the sum of products, and the error, as the functions tell them -/
def dotR (xs ys : List UInt8) : UInt8 := if xs.length = ys.length then dotF xs ys xs.length else 0
def eLen (xs ys : List UInt8) : Int := if xs.length = ys.length then 0 else 13
/-- c times b added to a list -/
def addL (xs : List UInt8) (c : UInt8) (ys : List UInt8) : List UInt8 := (List.range xs.length).map fun i => xs.getD i 0 ^^^ fm c (ys.getD i 0)
/-- what Add hands back -/
def addR (xs : List UInt8) (c : UInt8) (ys : List UInt8) : List UInt8 := if xs.length = ys.length then addL xs c ys else []
theorem addL_length (xs : List UInt8) (c : UInt8) (ys : List UInt8) : (addL xs c ys).length = xs.length := by simp [addL]
theorem addL_getD (xs : List UInt8) (c : UInt8) (ys : List UInt8) (i : Nat) (h : i < xs.length) : (addL xs c ys).getD i 0 = xs.getD i 0 ^^^ fm c (ys.getD i 0) := by
  simp [addL, List.getD_eq_getElem?_getD, h]
theorem addL_getElem? (xs : List UInt8) (c : UInt8) (ys : List UInt8) (i : Nat) (h : i < xs.length) : (addL xs c ys)[i]? = some (xs.getD i 0 ^^^ fm c (ys.getD i 0)) := by
  simp [addL, h]
theorem addL_snoc (xs : List UInt8) (c : UInt8) (ys : List UInt8) (k : Nat) (x : UInt8) (h : xs[k]? = some x) : addL (xs.take (k + 1)) c ys = addL (xs.take k) c ys ++ [x ^^^ fm c (ys.getD k 0)] := by
  have hk : k < xs.length := (List.getElem?_eq_some_iff.1 h).1
  unfold addL
  rw [List.length_take, List.length_take, Nat.min_eq_left (by omega), Nat.min_eq_left (by omega), List.range_succ, List.map_append]
  congr 1
  · apply List.map_congr_left
    intro i hi
    have hi' := List.mem_range.1 hi
    simp [List.getD_eq_getElem?_getD, hi', Nat.lt_succ_of_lt hi']
  · simp [List.getD_eq_getElem?_getD, List.getElem?_take, h]
theorem list_ext_getD {xs ys : List UInt8} (hl : xs.length = ys.length) (h : ∀ i, i < xs.length → xs.getD i 0 = ys.getD i 0) : xs = ys := by
  apply List.ext_getElem?
  intro i
  by_cases hi : i < xs.length
  · have h2 := h i hi
    rw [List.getD_eq_getElem?_getD, List.getD_eq_getElem?_getD, List.getElem?_eq_getElem hi, List.getElem?_eq_getElem (by omega)] at h2
    rw [List.getElem?_eq_getElem hi, List.getElem?_eq_getElem (by omega)]
    exact congrArg some h2
  · rw [List.getElem?_eq_none (by omega), List.getElem?_eq_none (by omega)]
theorem addL_twice (xs : List UInt8) (c d : UInt8) (ys : List UInt8) : addL (addL xs c ys) d ys = addL xs (c ^^^ d) ys := by
  refine list_ext_getD (by simp [addL_length]) fun i hi => ?_
  rw [addL_length, addL_length] at hi
  rw [addL_getD _ _ _ _ (by rw [addL_length]; exact hi), addL_getD _ _ _ _ hi, addL_getD _ _ _ _ hi, xor_fm, fx_assoc]
theorem addL_zero (xs ys : List UInt8) : addL xs 0 ys = xs := by
  refine list_ext_getD (addL_length _ _ _) fun i hi => ?_
  rw [addL_length] at hi
  rw [addL_getD _ _ _ _ hi, zero_fm, fx_zero]
theorem addL_self (xs : List UInt8) (c : UInt8) (ys : List UInt8) : addL (addL xs c ys) c ys = xs := by rw [addL_twice, fx_self, addL_zero]
end Go.Proofs.YtjbedcgacnnanaaDoor

namespace Go.Proofs.YtjbedcgacnnanaaDoor
open Go.RowKit

/-- a byte's cell -/
def B8 (b : UInt8) : Value := .int .u8 (b.toNat : Int)
/-- an int's cell -/
def I64 (n : Int) : Value := .int .i64 n

theorem block_of_add (a : Addr) (n : Nat) : (a.add n).block = a.block := by unfold Addr.add; split <;> rfl
theorem add_of_add (a : Addr) (i j : Nat) : (a.add i).add j = a.add (i + j) := by
  unfold Addr.add
  by_cases hi : i = 0 <;> by_cases hj : j = 0 <;> simp [hi, hj, Nat.add_assoc]

/-- the slice value of address A and length n holds the cells xs (size cells each), below block B -/
def Reads (w : World) (B size : Nat) (A : Option Addr) (n : Nat) (xs : List Value) : Prop :=
  xs.length = n * size ∧ (0 < n → ∃ ad, A = some ad ∧ ad.block < B ∧ ∀ j u, xs[j]? = some u → w.cell? (ad.add j) = some u)

section
variable {w w' : World} {B B' size n : Nat} {A : Option Addr} {xs : List Value}
theorem Reads.none_ : Reads w B size A 0 [] := ⟨by simp, fun h => absurd h (by omega)⟩
theorem Reads.at_ {k : Nat} (h : Reads w B 1 A n xs) (hk : k < n) : ∃ ad u, A = some ad ∧ ad.block < B ∧ xs[k]? = some u ∧ w.cell? (ad.add k) = some u := by
  obtain ⟨ad, e, hb, hc⟩ := h.2 (by omega)
  have hl : k < xs.length := by have := h.1; omega
  exact ⟨ad, xs[k], e, hb, List.getElem?_eq_getElem hl, hc k _ (List.getElem?_eq_getElem hl)⟩
theorem Reads.keep (h : Reads w B size A n xs) (hk : ∀ p : Addr, p.block < B → w'.cell? p = w.cell? p) : Reads w' B size A n xs :=
  ⟨h.1, fun hn => by
    obtain ⟨ad, e, hb, hc⟩ := h.2 hn
    exact ⟨ad, e, hb, fun j u hu => (hk _ (by rw [block_of_add]; exact hb)).trans (hc j u hu)⟩⟩
theorem Reads.more (h : Reads w B size A n xs) (hB : B ≤ B') : Reads w B' size A n xs :=
  ⟨h.1, fun hn => by
    obtain ⟨ad, e, hb, hc⟩ := h.2 hn
    exact ⟨ad, e, by omega, hc⟩⟩
theorem Reads.below (h : Reads w B size A n xs) (hb : Below B w w') : Reads w' B size A n xs := h.keep fun _ hp => hb.cell hp
theorem Reads.drew (h : Reads w B size A n xs) : Reads w.drew B size A n xs := h
theorem Reads.drewN (h : Reads w B size A n xs) (k : Nat) : Reads (w.drewN k) B size A n xs := h
theorem Reads.alloc (h : Reads w B size A n xs) (hB : B ≤ w.heap.size) (o : Obj) : Reads (w.alloc o) B size A n xs := h.keep fun p hp => World.cell?_alloc_lt w o p (by omega)
theorem Reads.setCell (h : Reads w B size A n xs) {p : Addr} (hB : B ≤ p.block) (u : Value) : Reads (w.setCell p u) B size A n xs :=
  h.keep fun q hq => World.cell?_setCell_other w p q u (fun e => by subst e; omega)
theorem Reads.grown (h : Reads w B size A n xs) {row : Option Nat} (hg : w.grownBy w' row) (hB : B ≤ w.heap.size) (hr : ∀ g, row = some g → B ≤ g) : Reads w' B size A n xs :=
  h.keep fun p hp => World.cell?_of_block (hg.block p.block (by omega) (fun e => by have := hr _ e.symm; omega))
theorem Reads.cut (h : Reads w B size A n xs) {k cap : Nat} (hk : k ≤ n) (hc : n ≤ cap) :
    Reads w B size (if cap = k then A else A.map (·.add (k * size))) (n - k) (xs.drop (k * size)) := by
  refine ⟨by rw [List.length_drop, h.1, Nat.sub_mul], fun hn => ?_⟩
  obtain ⟨ad, rfl, hb, hcell⟩ := h.2 (by omega)
  rw [if_neg (by omega)]
  refine ⟨ad.add (k * size), rfl, by rw [block_of_add]; exact hb, fun j u hu => ?_⟩
  rw [add_of_add]
  exact hcell _ u (by rw [← hu, List.getElem?_drop])
theorem Reads.take (h : Reads w B size A n xs) {k : Nat} (hk : k ≤ n) : Reads w B size A k (xs.take (k * size)) := by
  refine ⟨by rw [List.length_take, h.1]; exact Nat.min_eq_left (Nat.mul_le_mul_right _ hk), fun hn => ?_⟩
  obtain ⟨ad, rfl, hb, hcell⟩ := h.2 (by omega)
  refine ⟨ad, rfl, hb, fun j u hu => hcell j u ?_⟩
  rw [List.getElem?_take] at hu
  split at hu
  · exact hu
  · cases hu
theorem Reads.of_own {base : Nat} {e : TypeId} {c : Nat} (h : w.ownsRow base e size (.slice A n c) n xs) : Reads w w.heap.size size A n xs := by
  refine ⟨h.1, fun hn => ?_⟩
  obtain ⟨g, cap, hv, _, hlt⟩ := h.form hn
  have hA : A = some ⟨g, 0, none⟩ := by injection hv
  subst hA
  exact ⟨_, rfl, hlt, h.cells (g := g) rfl⟩
end

theorem lt_of_cell {w : World} {p : Addr} {v : Value} (h : w.cell? p = some v) : p.block < w.heap.size := by
  rcases Nat.lt_or_ge p.block w.heap.size with hlt | hge
  · exact hlt
  · simp [World.cell?, Array.getElem?_eq_none hge] at h
theorem get_map {α : Type} (f : α → Value) (l : List α) (k : Nat) (u : Value) (h : (l.map f)[k]? = some u) : ∃ x, l[k]? = some x ∧ u = f x := by
  rw [List.getElem?_map] at h
  cases hx : l[k]? with
  | none => rw [hx] at h; cases h
  | some x => rw [hx] at h; exact ⟨x, rfl, by injection h with h; exact h.symm⟩
/-- a byte of a slice that is read -/
theorem Reads.byte {w : World} {B n k : Nat} {A : Option Addr} {bs : List UInt8} (h : Reads w B 1 A n (bs.map B8)) (hk : k < n) :
    ∃ ad b, A = some ad ∧ ad.block < B ∧ bs[k]? = some b ∧ w.cell? (ad.add k) = some (.int .u8 (b.toNat : Int)) := by
  obtain ⟨ad, u, hA, hb, hx, hc⟩ := h.at_ hk
  obtain ⟨b, hb1, rfl⟩ := get_map B8 bs k u hx
  exact ⟨ad, b, hA, hb, hb1, hc⟩
theorem Reads.cell_at {w : World} {B n k : Nat} {ad : Addr} {bs : List UInt8} {b : UInt8} (h : Reads w B 1 (some ad) n (bs.map B8)) (hb : bs[k]? = some b) : w.cell? (ad.add k) = some (.int .u8 (b.toNat : Int)) := by
  have hl : k < bs.length := (List.getElem?_eq_some_iff.1 hb).1
  obtain ⟨ad', e, _, hc⟩ := h.2 (by have := h.1; simp at this; omega)
  injection e with e
  subst e
  exact hc k (B8 b) (by rw [List.getElem?_map, hb]; rfl)
theorem Reads.len {w : World} {B n : Nat} {A : Option Addr} {α : Type} {f : α → Value} {bs : List α} (h : Reads w B 1 A n (bs.map f)) : bs.length = n := by
  have := h.1; simpa using this

/-- block g is just the cells cs of element type t, none frozen -/
def Blk (w : World) (g : Nat) (t : TypeId) (cs : Array Value) : Prop := w.heap[g]? = some (.cells cs t (0, 0))

section
variable {w w' : World} {g : Nat} {t : TypeId} {cs : Array Value}
theorem Blk.lt (h : Blk w g t cs) : g < w.heap.size := by
  rcases Nat.lt_or_ge g w.heap.size with hlt | hge
  · exact hlt
  · unfold Blk at h; rw [Array.getElem?_eq_none hge] at h; cases h
theorem Blk.cell (h : Blk w g t cs) (i : Nat) : w.cell? ⟨g, i, none⟩ = cs[i]? := cell_of_row w g i cs t (0, 0) h
theorem Blk.frozen (h : Blk w g t cs) (i : Nat) : w.frozen? ⟨g, i, none⟩ = false := by
  unfold Blk at h
  simp [World.frozen?, h]
theorem Blk.new (w : World) (t : TypeId) (cs : Array Value) : Blk (w.alloc (.cells cs t)) w.heap.size t cs := heap_alloc_new w _
theorem Blk.drew (h : Blk w g t cs) : Blk w.drew g t cs := h
theorem Blk.drewN (h : Blk w g t cs) (n : Nat) : Blk (w.drewN n) g t cs := h
theorem Blk.alloc (h : Blk w g t cs) (o : Obj) : Blk (w.alloc o) g t cs := (Below.heap_alloc w o g h.lt).trans h
theorem Blk.set_ (h : Blk w g t cs) (i : Nat) (u : Value) : Blk (w.setCell ⟨g, i, none⟩ u) g t (cs.setIfInBounds i u) := by
  unfold Blk at h ⊢
  simp [World.setCell, Array.getElem?_modify, h]
theorem Blk.far (h : Blk w g t cs) {p : Addr} (hp : g ≠ p.block) (u : Value) : Blk (w.setCell p u) g t cs := (Below.heap_setCell w p u g hp).trans h
theorem Blk.below {B : Nat} (h : Blk w g t cs) (hb : Below B w w') (hg : g < B) : Blk w' g t cs := (hb.block g hg).trans h
theorem Blk.grown {row : Option Nat} (h : Blk w g t cs) (hb : w.grownBy w' row) (hg : some g ≠ row) : Blk w' g t cs := (hb.block g h.lt hg).trans h
theorem Blk.ne_ {g' : Nat} {t' : TypeId} {cs' : Array Value} (h : Blk w g t cs) (h' : Blk w g' t' cs') (hne : t ≠ t') : g ≠ g' := by
  rintro rfl
  unfold Blk at h h'
  rw [h] at h'
  injection h' with h'
  injection h' with _ ht
  exact hne ht
theorem Blk.row (h : Blk w g t cs) (ds : Array Value) : Blk (w.setRow g ds) g t ds := setRow_heap w g cs ds t (0, 0) h
theorem Blk.rowFar {g' : Nat} (h : Blk w g t cs) (hne : g ≠ g') (ds : Array Value) : Blk (w.setRow g' ds) g t cs := (setRow_other w g' g ds hne).trans h
theorem below_row {B : Nat} {a : World} (h : Below B a w) (hB : B ≤ g) (ds : Array Value) : Below B a (w.setRow g ds) :=
  h.trans ⟨rfl, rfl, rfl, by rw [size_setRow]; exact Nat.le_refl _, fun k hk => setRow_other w g k ds (by omega)⟩
end

/-! what a call makes and hands back -/
/-- the call handed back a slice of its own: it owns the cells xs; what was there is as it was -/
def Fresh (w w' : World) (E : TypeId) (A : Option Addr) (n c : Nat) (xs : List Value) : Prop := w'.ownsRow w.heap.size E 1 (.slice A n c) n xs ∧ Below w.heap.size w w'
theorem Fresh.reads {w w' : World} {E : TypeId} {A : Option Addr} {n c : Nat} {xs : List Value} (h : Fresh w w' E A n c xs) : Reads w' w'.heap.size 1 A n xs := Reads.of_own h.1
theorem Fresh.below {w w' : World} {E : TypeId} {A : Option Addr} {n c : Nat} {xs : List Value} (h : Fresh w w' E A n c xs) : Below w.heap.size w w' := h.2
theorem Fresh.nil (w : World) (E : TypeId) : Fresh w w E none 0 0 [] := ⟨World.ownsRow_nil w _ E 1, Below.refl _ _⟩
/-- an owned value is a slice -/
theorem own_slice {w : World} {base : Nat} {E : TypeId} {v : Value} {n : Nat} {xs : List Value} (h : w.ownsRow base E 1 v n xs) : ∃ A c, v = .slice A n c := by
  rcases h.2 with ⟨rfl, rfl⟩ | ⟨g, cap, cur, rfl, _⟩
  · exact ⟨none, 0, rfl⟩
  · exact ⟨_, cap, rfl⟩

theorem own_cap {w : World} {base : Nat} {E : TypeId} {size n c : Nat} {A : Option Addr} {xs : List Value} (h : w.ownsRow base E size (.slice A n c) n xs) : n ≤ c ∧ c ≤ maxLen := by
  rcases h.2 with ⟨h0, h1⟩ | ⟨g, cap, cur, h0, _, _, h2, h3, _⟩
  · injection h0 with _ _ h4
    subst h4; subst h1
    exact ⟨Nat.le_refl _, Nat.zero_le _⟩
  · injection h0 with _ _ h4
    subst h4
    exact ⟨h2, h3⟩

/-- what a call owns below the world's size stays owned while only newer memory turns -/
theorem own_below {w w' : World} {base : Nat} {E : TypeId} {size n : Nat} {v : Value} {xs : List Value} (h : w.ownsRow base E size v n xs) (hb : Below w.heap.size w w') : w'.ownsRow base E size v n xs := by
  refine ⟨h.1, ?_⟩
  rcases h.2 with hn | ⟨g, cap, cur, rfl, h1, h2, h3⟩
  · exact .inl hn
  · have hlt : g < w.heap.size := by
      rcases Nat.lt_or_ge g w.heap.size with hlt | hge
      · exact hlt
      · rw [Array.getElem?_eq_none hge] at h2; cases h2
    exact .inr ⟨g, cap, cur, rfl, h1, (hb.block g hlt).trans h2, h3⟩

theorem own_base {w : World} {base base' : Nat} {E : TypeId} {size n : Nat} {v : Value} {xs : List Value} (h : w.ownsRow base E size v n xs) (hb : base' ≤ base) : w.ownsRow base' E size v n xs := by
  refine ⟨h.1, ?_⟩
  rcases h.2 with hn | ⟨g, cap, cur, rfl, h1, h2⟩
  · exact .inl hn
  · exact .inr ⟨g, cap, cur, rfl, Nat.le_trans hb h1, h2⟩

/-! bytes as a string -/
theorem push_all : ∀ (ns : List UInt8) (s : ByteArray), (ns.map (fun b => (b.toNat : Int))).foldl (fun r n => r.push (UInt8.ofNat n.toNat)) s = ⟨s.data ++ ns.toArray⟩
  | [], s => by simp
  | b :: ns, s => by
    rw [List.map_cons, List.foldl_cons, push_all ns]
    have e : UInt8.ofNat ((b.toNat : Int).toNat) = b := by simp
    rw [e]
    apply ByteArray.ext
    simp [ByteArray.push]
theorem run_str {P : Program} {w : World} {B n c : Nat} {A : Option Addr} {bs : List UInt8} (src dst e : TypeId)
    (hs : P.underlying src = some (.slice e)) (he : P.underlying e = some (.int .u8)) (hd : P.underlying dst = some .string) (h : Reads w B 1 A n (bs.map B8)) :
    (convert src dst (.slice A n c)).run P w = .ok (.string ⟨bs.toArray⟩) w := by
  rw [run_convert_bytes_string w src dst e A n c hs he hd]
  have hlen := h.len
  rcases A with _ | ad
  · have h0 : n = 0 := by
      rcases Nat.eq_zero_or_pos n with h0 | h0
      · exact h0
      · obtain ⟨ad, he, _⟩ := h.2 h0; cases he
    have hb : bs = [] := List.eq_nil_of_length_eq_zero (by omega)
    subst hb
    simp [Conv.bytesToString, Sem.run_pure]
    rfl
  · have hl : (loadCells ad n).run P w = .ok ((bs.map (fun b => (b.toNat : Int))).map (Value.int .u8)).toArray w := by
      have e1 : (bs.map (fun b => (b.toNat : Int))).map (Value.int .u8) = bs.map B8 := by rw [List.map_map]; rfl
      rw [e1]
      have := run_loadCells_list (P := P) (w := w) ad (bs.map B8) (fun j v hv => by
        have hn : 0 < n := by
          rcases Nat.eq_zero_or_pos n with h0 | h0
          · have hb : bs = [] := List.eq_nil_of_length_eq_zero (by omega)
            subst hb; simp at hv
          · exact h0
        obtain ⟨ad', he', _, hc⟩ := h.2 hn
        injection he' with he'
        subst he'
        exact hc j v hv)
      rwa [List.length_map, hlen] at this
    rw [run_bytesToString w ad n c _ hl, push_all]
    simp

/-! a world that has drawn orders and is else the same -/
def Dr (w w' : World) : Prop := ∃ m, w' = w.drewN m
theorem Dr.refl (w : World) : Dr w w := ⟨0, rfl⟩
theorem Dr.drewN {a w : World} (h : Dr a w) (n : Nat) : Dr a (w.drewN n) := by
  obtain ⟨m, rfl⟩ := h
  exact ⟨m + n, by rw [World.drewN_drewN]⟩
theorem Dr.trans {a b c : World} (h : Dr a b) (k : Dr b c) : Dr a c := by
  obtain ⟨m, rfl⟩ := k
  exact h.drewN m
theorem Dr.reads {a w : World} (h : Dr a w) {B size n : Nat} {A : Option Addr} {xs : List Value} (r : Reads a B size A n xs) : Reads w B size A n xs := by
  obtain ⟨m, rfl⟩ := h
  exact r.drewN m
theorem Dr.size {a w : World} (h : Dr a w) : w.heap.size = a.heap.size := by
  obtain ⟨m, rfl⟩ := h
  rfl
theorem Dr.below {a w : World} (h : Dr a w) (B : Nat) : Below B a w := by
  obtain ⟨m, rfl⟩ := h
  exact ⟨rfl, rfl, rfl, Nat.le_refl _, fun _ _ => rfl⟩

/-! two laws on operations, with the world behind them a name -/
section
variable {P : Program} {w : World} {ops : Array Oper} {rest : List Oper} {o : Oper} {a : Act} {Q : Exit → Act → World → Prop}
/-- a whole array (or struct) stored into a block of the call's own -/
theorem wpList_store_box (hgd : o.guard = none) (ty : TypeId) (x y : Operand) (ho : o.op = .store ty x y)
    (g : Nat) (cells : Array Value) (hx : a.eval x = .pointer (some ⟨g, 0, none⟩)) (hy : a.eval y = .agg cells)
    (t : TypeId) (old : Array Value) (hg : Blk w g t old) (hi : (P.info? ty).map (·.size) = some cells.size)
    (hold : old.size = cells.size) (h1 : cells.all (·.oneCell') = true)
    (h : ∀ w2, Blk w2 g t cells → (∀ b, b ≠ g → w2.heap[b]? = w.heap[b]?) → (∀ B a, Below B a w → B ≤ g → Below B a w2) → w2.heap.size = w.heap.size → wpList P ops Q rest (a.put o.dst undef) w2) : wpList P ops Q (o :: rest) a w :=
  wpList_store_row hgd ty x y ho g cells hx hy t old hg hi hold h1 (h _ (hg.row cells) (fun b hb => setRow_other w g b cells hb) (fun _ _ hB hBg => below_row hB hBg cells) (size_setRow w g cells))
end
/-- an owned slice and a block known whole of another element type lie apart -/
theorem own_blk_ne {w : World} {g : Nat} {t : TypeId} {cs : Array Value} {base : Nat} {e : TypeId} {size n : Nat} {v : Value} {xs : List Value} (h : w.ownsRow base e size v n xs) (hg : Blk w g t cs) (hne : e ≠ t) : v.ownBlock ≠ some g := by
  rcases h.2 with ⟨rfl, _⟩ | ⟨g', cap, cur, rfl, _, hh, _⟩
  · simp [Value.ownBlock]
  · intro he
    have : g' = g := by simpa [Value.ownBlock] using he
    subst this
    exact Blk.ne_ (t := e) hh hg hne rfl

/-- bytes of the call's own and an error -/
def SlErr (E : TypeId) (w : World) (r : List UInt8) (er : Int) (e : Ending) (w' : World) : Prop := ∃ A c, e = .returned (.tuple #[.slice A r.length c, .int .i64 er]) ∧ Fresh w w' E A r.length c (r.map B8)
/-- the same, the length by a number's name -/
def SlErrN (E : TypeId) (w : World) (n : Nat) (r : List UInt8) (er : Int) (e : Ending) (w' : World) : Prop := ∃ A c, e = .returned (.tuple #[.slice A n c, .int .i64 er]) ∧ Fresh w w' E A n c (r.map B8)
theorem SlErrN_eq {E : TypeId} {w : World} {n : Nat} {r : List UInt8} {er : Int} (h : r.length = n) : SlErr E w r er = SlErrN E w n r er := by subst h; rfl

/-! a slice cut behind its head: the address under one name -/
def cutA (A : Option Addr) (c k s : Nat) : Option Addr := if c = k then A else A.map (·.add (k * s))
theorem run_cut_lo {P : Program} (t e : TypeId) (i : TypeInfo) (s : Nat) (ht : P.underlying t = some (.slice e)) (hi : P.info? e = some i) (hs : i.size = s) (A : Option Addr) (n c k : Nat) (kl : IntKind) (hk : k ≤ n) (W : World) :
    (Instr.slice t (.slice A n c) (some (.int kl (k : Int))) none none).run P W = .ok (.slice (cutA A c k s) (n - k) (c - k)) W := by
  have he : P.elem t = e := by simp [Program.elem, ht]
  rw [run_slice_l (t := t) (a := A) (len := n) (cap := c) (ht := by rw [he]; exact ht) (kl := kl) (l := (k : Int)) (h0 := by omega) (h1 := by omega), he]
  have hz : (sizeOf e).run P W = .ok s W := by simp [sizeOf, typeInfo, hi, hs]
  rw [hz]
  simp [Result.andThen, sliced, cutA]
theorem run_cut_lh {P : Program} (t e : TypeId) (i : TypeInfo) (s : Nat) (ht : P.underlying t = some (.slice e)) (hi : P.info? e = some i) (hs : i.size = s) (A : Option Addr) (n c k h : Nat) (kl kh : IntKind) (hk : k ≤ h) (hh : h ≤ c) (W : World) :
    (Instr.slice t (.slice A n c) (some (.int kl (k : Int))) (some (.int kh (h : Int))) none).run P W = .ok (.slice (cutA A c k s) (h - k) (c - k)) W := by
  have he : P.elem t = e := by simp [Program.elem, ht]
  rw [run_slice_lh (t := t) (a := A) (len := n) (cap := c) (ht := by rw [he]; exact ht) (kl := kl) (kh := kh) (l := (k : Int)) (h := (h : Int)) (h0 := by omega) (h1 := by omega) (h2 := by omega), he]
  have hz : (sizeOf e).run P W = .ok s W := by simp [sizeOf, typeInfo, hi, hs]
  rw [hz]
  simp [Result.andThen, sliced, cutA]
theorem Reads.cutN {w : World} {B n k c : Nat} {A : Option Addr} {α : Type} {f : α → Value} {bs : List α} (h : Reads w B 1 A n (bs.map f)) (hk : k ≤ n) (hc : n ≤ c) : Reads w B 1 (cutA A c k 1) (n - k) ((bs.drop k).map f) := by
  have h2 := h.cut hk hc
  rw [List.map_drop]
  rw [Nat.mul_one] at h2
  unfold cutA
  rw [Nat.mul_one]
  exact h2
theorem Reads.takeN {w : World} {B n k : Nat} {A : Option Addr} {α : Type} {f : α → Value} {bs : List α} (h : Reads w B 1 A n (bs.map f)) (hk : k ≤ n) : Reads w B 1 A k ((bs.take k).map f) := by
  have h2 := h.take hk
  rw [Nat.mul_one] at h2
  rw [List.map_take]; exact h2

/-! lists of lists of bytes -/
/-- a list of lists of bytes, below block B -/
def Rows8 (w : World) (B : Nat) (A : Option Addr) (n : Nat) (xss : List (List UInt8)) : Prop :=
  ∃ cs : List Value, Reads w B 1 A n cs ∧ xss.length = n ∧ ∀ (i : Nat) (xs : List UInt8), xss[i]? = some xs → ∃ (Ai : Option Addr) (ni ci : Nat), cs[i]? = some (.slice Ai ni ci) ∧ ni ≤ ci ∧ ci ≤ maxLen ∧ Reads w B 1 Ai ni (xs.map B8)
theorem Rows8.row {w : World} {B n k : Nat} {A : Option Addr} {xss : List (List UInt8)} (h : Rows8 w B A n xss) (hk : k < n) :
    ∃ ad xs Ai ni ci, A = some ad ∧ ad.block < B ∧ xss[k]? = some xs ∧ w.cell? (ad.add k) = some (.slice Ai ni ci) ∧ ni ≤ ci ∧ ci ≤ maxLen ∧ Reads w B 1 Ai ni (xs.map B8) := by
  obtain ⟨cs, hr, hl, hc⟩ := h
  obtain ⟨ad, u, hA, hb, hu, hcell⟩ := hr.at_ hk
  obtain ⟨Ai, ni, ci, h1, h2, h3, h4⟩ := hc k (xss[k]'(by omega)) (List.getElem?_eq_getElem _)
  rw [hu] at h1
  injection h1 with h1
  subst h1
  exact ⟨ad, _, Ai, ni, ci, hA, hb, List.getElem?_eq_getElem _, hcell, h2, h3, h4⟩
theorem Rows8.below {w w' : World} {B n : Nat} {A : Option Addr} {xss : List (List UInt8)} (h : Rows8 w B A n xss) (hb : Below B w w') : Rows8 w' B A n xss := by
  obtain ⟨cs, hr, hl, hc⟩ := h
  refine ⟨cs, hr.below hb, hl, fun i xs hi => ?_⟩
  obtain ⟨Ai, ni, ci, h1, h2, h3, h4⟩ := hc i xs hi
  exact ⟨Ai, ni, ci, h1, h2, h3, h4.below hb⟩
theorem Rows8.more {w : World} {B B' n : Nat} {A : Option Addr} {xss : List (List UInt8)} (h : Rows8 w B A n xss) (hB : B ≤ B') : Rows8 w B' A n xss := by
  obtain ⟨cs, hr, hl, hc⟩ := h
  refine ⟨cs, hr.more hB, hl, fun i xs hi => ?_⟩
  obtain ⟨Ai, ni, ci, h1, h2, h3, h4⟩ := hc i xs hi
  exact ⟨Ai, ni, ci, h1, h2, h3, h4.more hB⟩

/-- one list of bytes as a list of lists: the box that the call makes -/
theorem rows8_one {w : World} {B n c : Nat} {A : Option Addr} {bs : List UInt8} (t : TypeId) (h : Reads w B 1 A n (bs.map B8)) (hB : B ≤ w.heap.size) (hc : n ≤ c) (hm : c ≤ maxLen) :
    Rows8 (w.alloc (.cells #[.slice A n c] t)) (w.heap.size + 1) (some ⟨w.heap.size, 0, none⟩) 1 [bs] := by
  refine ⟨[.slice A n c], ⟨rfl, fun _ => ⟨_, rfl, Nat.lt_succ_self _, fun j u hu => ?_⟩⟩, rfl, fun i xs hi => ?_⟩
  · match j, hu with
    | 0, hu =>
      simp at hu
      subst hu
      exact (Blk.new w t #[.slice A n c]).cell 0
  · match i, hi with
    | 0, hi =>
      simp at hi
      subst hi
      exact ⟨A, n, c, rfl, hc, hm, (h.alloc hB _).more (by omega)⟩

/-- lists of bytes in a new box -/
theorem rows8_new {w : World} {B : Nat} (t : TypeId) (vs : List Value) (xss : List (List UInt8)) (hB : B ≤ w.heap.size) (hl : vs.length = xss.length)
    (h : ∀ (i : Nat) (xs : List UInt8), xss[i]? = some xs → ∃ (Ai : Option Addr) (ni ci : Nat), vs[i]? = some (.slice Ai ni ci) ∧ ni ≤ ci ∧ ci ≤ maxLen ∧ Reads w B 1 Ai ni (xs.map B8)) :
    Rows8 (w.alloc (.cells vs.toArray t)) (w.heap.size + 1) (some ⟨w.heap.size, 0, none⟩) vs.length xss := by
  refine ⟨vs, ⟨by simp, fun _ => ⟨_, rfl, Nat.lt_succ_self _, fun j u hu => ?_⟩⟩, hl.symm, fun i xs hi => ?_⟩
  · have e : (⟨w.heap.size, 0, none⟩ : Addr).add j = ⟨w.heap.size, j, none⟩ := by unfold Addr.add; split <;> simp_all
    rw [e, (Blk.new w t vs.toArray).cell j]
    simpa using hu
  · obtain ⟨Ai, ni, ci, h1, h2, h3, h4⟩ := h i xs hi
    exact ⟨Ai, ni, ci, h1, h2, h3, (h4.alloc hB _).more (by omega)⟩
theorem rows8_nil (w : World) (B : Nat) : Rows8 w B none 0 [] := ⟨[], Reads.none_, rfl, fun i xs hi => by simp at hi⟩

end Go.Proofs.YtjbedcgacnnanaaDoor

namespace Go.Proofs.YtjbedcgacnnanaaDoor
open Go.RowKit

section
variable {P : Program} (w : World)

theorem run_append_of_nil (base : Nat) (t ty e : TypeId) (i : TypeInfo) (size : Nat) (ht : P.underlying t = some (.slice e)) (hi : P.info? e = some i)
    (v : Value) (n : Nat) (xs : List Value) (hown : w.ownsRow base e size v n xs) (c : Nat) : (Builtin.append_ #[t, t] ty #[v, .slice none 0 c]).run P w = .ok v w := by
  rcases hown.2 with ⟨rfl, rfl⟩ | ⟨g, cap, cur, rfl, _, _, hnc, _⟩
  · simp [Builtin.append_, run_underlying ht, sizeOf, typeInfo, hi, Builtin.lenOf, Builtin.firstCells]
  · simp [Builtin.append_, run_underlying ht, sizeOf, typeInfo, hi, Builtin.lenOf, Builtin.firstCells, hnc, storeCells]

theorem own_slice_n {w : World} {base : Nat} {E : TypeId} {size : Nat} {v : Value} {n : Nat} {xs : List Value} (h : w.ownsRow base E size v n xs) : ∃ A c, v = .slice A n c := by
  rcases h.2 with ⟨rfl, rfl⟩ | ⟨g, cap, cur, rfl, _⟩
  · exact ⟨none, 0, rfl⟩
  · exact ⟨_, cap, rfl⟩

/-- where the row lies now: where it lay, or in a new block -/
def Stays (w : World) (A A' : Option Addr) : Prop := A'.map (·.block) = A.map (·.block) ∨ A'.map (·.block) = some w.heap.size
theorem ownBlock_slice (A : Option Addr) (n c : Nat) : (Value.slice A n c).ownBlock = A.map (·.block) := by cases A <;> rfl

theorem run_append_any (base : Nat) (t ty e : TypeId) (i : TypeInfo) (z : Value) (size bytes : Nat) (ht : P.underlying t = some (.slice e)) (hi : P.info? e = some i) (hz : i.zero = some z)
    (hsize : i.size = size) (hby : i.bytes = bytes) (hzs : z.cells.size = size) (hsz : 0 < size)
    (A0 : Option Addr) (n c0 : Nat) (xs : List Value) (hown : w.ownsRow base e size (.slice A0 n c0) n xs)
    (B : Nat) (A : Option Addr) (m c : Nat) (news : List Value) (hr : Reads w B size A m news) (h1 : ∀ u ∈ news, u.oneCell' = true)
    (h63 : n + m ≤ maxLen) (hbytes : (n + m) * bytes ≤ 140737488355328) (hbase : base ≤ w.heap.size) :
    ∃ A' c' w', (Builtin.append_ #[t, t] ty #[.slice A0 n c0, .slice A m c]).run P w = .ok (.slice A' (n + m) c') w' ∧ w'.ownsRow base e size (.slice A' (n + m) c') (n + m) (xs ++ news) ∧ w.grownBy w' (A0.map (·.block)) ∧ Stays w A0 A' := by
  rcases A with _ | ad
  · have hm : m = 0 := by
      rcases Nat.eq_zero_or_pos m with h0 | h0
      · exact h0
      · obtain ⟨ad, h, _⟩ := hr.2 h0
        cases h
    subst hm
    have hn : news = [] := List.eq_nil_of_length_eq_zero (by simpa using hr.1)
    subst hn
    exact ⟨A0, c0, w, run_append_of_nil w base t ty e i size ht hi _ n xs hown c, by simpa using hown, World.grownBy.refl w _, .inl rfl⟩
  · have hcells : ∀ j u, news[j]? = some u → w.cell? (ad.add j) = some u := by
      intro j u hu
      rcases Nat.eq_zero_or_pos m with h0 | h0
      · subst h0
        have hn : news = [] := List.eq_nil_of_length_eq_zero (by simpa using hr.1)
        subst hn
        simp at hu
      · obtain ⟨ad', h, _, hc⟩ := hr.2 h0
        injection h with h
        subst h
        exact hc j u hu
    obtain ⟨v', w', hrun, h2, h3, _, h5⟩ := run_append_own_at (P := P) w base t ty e i z size bytes ht hi hz hsize hby hzs hsz _ n xs hown ad m c news hr.1 hcells h1 h63 hbytes hbase
    obtain ⟨A', c', rfl⟩ := own_slice_n h2
    rw [ownBlock_slice] at h3
    rw [ownBlock_slice, ownBlock_slice] at h5
    exact ⟨A', c', w', hrun, h2, h3, h5⟩

theorem wp_append_any {o : Oper} {a : Act} {K : Act → World → Prop} {Q : Exit → Act → World → Prop} (s x : Operand) (t : TypeId)
    (ho : o.op = .call { callee := .builtin .append, args := #[s, x], argTypes := #[t, t] })
    (base : Nat) (e : TypeId) (i : TypeInfo) (z : Value) (size bytes : Nat) (ht : P.underlying t = some (.slice e)) (hi : P.info? e = some i) (hz : i.zero = some z)
    (hsize : i.size = size) (hby : i.bytes = bytes) (hzs : z.cells.size = size) (hsz : 0 < size)
    (A0 : Option Addr) (n c0 : Nat) (xs : List Value) (hs : a.eval s = .slice A0 n c0) (hown : w.ownsRow base e size (.slice A0 n c0) n xs)
    (B : Nat) (A : Option Addr) (m c : Nat) (news : List Value) (hx : a.eval x = .slice A m c) (hr : Reads w B size A m news) (h1 : ∀ u ∈ news, u.oneCell' = true)
    (h63 : n + m ≤ maxLen) (hbytes : (n + m) * bytes ≤ 140737488355328) (hbase : base ≤ w.heap.size)
    (h : ∀ A' c' w', w'.ownsRow base e size (.slice A' (n + m) c') (n + m) (xs ++ news) → w.grownBy w' (A0.map (·.block)) → Stays w A0 A' → K (a.put o.dst (.slice A' (n + m) c')) w') : o.wp P a w K Q := by
  obtain ⟨A', c', w', hrun, h2, h3, h4⟩ := run_append_any (P := P) w base t o.type e i z size bytes ht hi hz hsize hby hzs hsz A0 n c0 xs hown B A m c news hr h1 h63 hbytes hbase
  unfold Oper.wp execOp
  simp only [ho, resolve, invoke, builtin, Sem.run_bind, Sem.run_pure, Result.andThen_ok, List.map_toArray, List.map_cons, List.map_nil, hs, hx, hrun]
  exact h A' c' w' h2 h3 h4

/-- append(s, x...), s the call's own, x read -/
theorem wpList_append_any {ops : Array Oper} {rest : List Oper} {o : Oper} {a : Act} {Q : Exit → Act → World → Prop} (hgd : o.guard = none) (s x : Operand) (t : TypeId)
    (ho : o.op = .call { callee := .builtin .append, args := #[s, x], argTypes := #[t, t] })
    (base : Nat) (e : TypeId) (i : TypeInfo) (z : Value) (size bytes : Nat) (ht : P.underlying t = some (.slice e)) (hi : P.info? e = some i) (hz : i.zero = some z)
    (hsize : i.size = size) (hby : i.bytes = bytes) (hzs : z.cells.size = size) (hsz : 0 < size)
    (A0 : Option Addr) (n c0 : Nat) (xs : List Value) (hs : a.eval s = .slice A0 n c0) (hown : w.ownsRow base e size (.slice A0 n c0) n xs)
    (B : Nat) (A : Option Addr) (m c : Nat) (news : List Value) (hx : a.eval x = .slice A m c) (hr : Reads w B size A m news) (h1 : ∀ u ∈ news, u.oneCell' = true)
    (h63 : n + m ≤ maxLen) (hbytes : (n + m) * bytes ≤ 140737488355328) (hbase : base ≤ w.heap.size)
    (h : ∀ A' c' w', w'.ownsRow base e size (.slice A' (n + m) c') (n + m) (xs ++ news) → w.grownBy w' (A0.map (·.block)) → Stays w A0 A' → wpList P ops Q rest (a.put o.dst (.slice A' (n + m) c')) w') : wpList P ops Q (o :: rest) a w :=
  wpList_plain hgd fun _ hK => wp_append_any w s x t ho base e i z size bytes ht hi hz hsize hby hzs hsz A0 n c0 xs hs hown B A m c news hx hr h1 h63 hbytes hbase fun A' c' w' h2 h3 h4 => hK _ _ (h A' c' w' h2 h3 h4)

theorem step_append_any {ops : Array Oper} {o : Oper} {a : Act} {K : Act → World → Prop} {Q : Exit → Act → World → Prop} {E : Prop} (hgd : o.guard = none) (s x : Operand) (t : TypeId)
    (ho : o.op = .call { callee := .builtin .append, args := #[s, x], argTypes := #[t, t] })
    (base : Nat) (e : TypeId) (i : TypeInfo) (z : Value) (size bytes : Nat) (ht : P.underlying t = some (.slice e)) (hi : P.info? e = some i) (hz : i.zero = some z)
    (hsize : i.size = size) (hby : i.bytes = bytes) (hzs : z.cells.size = size) (hsz : 0 < size)
    (A0 : Option Addr) (n c0 : Nat) (xs : List Value) (hs : a.eval s = .slice A0 n c0) (hown : w.ownsRow base e size (.slice A0 n c0) n xs)
    (B : Nat) (A : Option Addr) (m c : Nat) (news : List Value) (hx : a.eval x = .slice A m c) (hr : Reads w B size A m news) (h1 : ∀ u ∈ news, u.oneCell' = true)
    (h63 : n + m ≤ maxLen) (hbytes : (n + m) * bytes ≤ 140737488355328) (hbase : base ≤ w.heap.size)
    (h : ∀ A' c' w', w'.ownsRow base e size (.slice A' (n + m) c') (n + m) (xs ++ news) → w.grownBy w' (A0.map (·.block)) → Stays w A0 A' → K (a.put o.dst (.slice A' (n + m) c')) w') :
    if Region.wanted o (yielded ops a.tmps) = true then Oper.wp P o a w K Q else E := by
  have hw : Region.wanted o (yielded ops a.tmps) = true := by simp [Region.wanted, hgd]
  rw [if_pos hw]
  exact wp_append_any w s x t ho base e i z size bytes ht hi hz hsize hby hzs hsz A0 n c0 xs hs hown B A m c news hx hr h1 h63 hbytes hbase h
end
/-- the one element of 'append(s, x)': a new block of one cell, read -/
theorem reads_one (w : World) (x : Value) (t : TypeId) : Reads (w.alloc (.cells #[x] t)) (w.heap.size + 1) 1 (some ⟨w.heap.size, 0, none⟩) 1 [x] :=
  ⟨rfl, fun _ => ⟨_, rfl, Nat.lt_succ_self _, cell_one_new w x t⟩⟩
theorem one_one {x : Value} (h : x.oneCell' = true) : ∀ u ∈ [x], u.oneCell' = true := by
  intro u hu
  rw [List.mem_singleton.1 hu]; exact h
/-- behind an append all below the call's own base is as it was -/
theorem below_app {B : Nat} {a w w' : World} {e : TypeId} {size n c : Nat} {A : Option Addr} {xs : List Value} (hb : Below B a w) (hg : w.grownBy w' (A.map (·.block))) (ho : w.ownsRow B e size (.slice A n c) n xs) (hB : B ≤ w.heap.size) : Below B a w' :=
  hb.grown hg hB (fun k hk => (ho.lt k (by rw [ownBlock_slice]; exact hk)).1)
end Go.Proofs.YtjbedcgacnnanaaDoor

namespace Go.Proofs.YtjbedcgacnnanaaDoor.Gfb
open Go.RowKit

/-- 256 zeros -/
def zc256 : Array Value := Array.replicate 256 (.int .u8 0)
theorem info_arr : (Tryd.prog.info? 107).map (fun i => (i.zero, i.size)) = some (some (.agg zc256), 256) := by kernel_rfl
/-- a row's cells -/
def rowCells (c : Nat) : Array Value := ((List.range 256).map fun i => Value.int .u8 ((Gfp.gm c i : Nat) : Int)).toArray
theorem rowCells_size (c : Nat) : (rowCells c).size = 256 := by simp [rowCells]
theorem rowCells_at (c i : Nat) (h : i < 256) : (rowCells c)[i]? = some (.int .u8 ((Gfp.gm c i : Nat) : Int)) := by
  simp [rowCells, h]

theorem rowCells_one (c : Nat) : (rowCells c).all (·.oneCell') = true := by
  unfold rowCells
  rw [List.all_toArray, List.all_map]
  exact List.all_eq_true.2 fun _ _ => rfl
theorem zc256_size (c : Nat) : zc256.size = (rowCells c).size := by rw [rowCells_size]; simp [zc256]

set_option maxRecDepth 100000 in
theorem row_any (c : Nat) (w : World) (hc : c < 256) :
    Calls Tryd.prog 73 #[.int .u8 c] w fun e w' => e = .returned (.agg (rowCells c)) ∧ Below w.heap.size w w' := by
  have hz := (zero_of_info info_arr).1
  go_enter Tryd.func73, Tryd.ntmps73
  go_wp2_with fail
  have hB : Below w.heap.size w ((w.alloc (.cells zc256 107)).alloc (.cells zc256 107)) := ((Below.refl _ _).alloc (Nat.le_refl _) _).alloc (by simp) _
  have hb1 : Blk ((w.alloc (.cells zc256 107)).alloc (.cells zc256 107)) w.heap.size 107 zc256 := (Blk.new w _ _).alloc _
  have hb2 : Blk ((w.alloc (.cells zc256 107)).alloc (.cells zc256 107)) (w.heap.size + 1) 107 zc256 := heap_alloc2_new w _ _
  have hw : w.heap.size + 1 < ((w.alloc (.cells zc256 107)).alloc (.cells zc256 107)).heap.size := by simp
  generalize (w.alloc (.cells zc256 107)).alloc (.cells zc256 107) = w1 at *
  replace hB := Lib.hid hB; replace hb1 := Lib.hid hb1; replace hb2 := Lib.hid hb2
  go_loopw [4] (fun i wr => ∃ k : Nat, i = .int .i64 k ∧ 1 ≤ k ∧ k ≤ 256 ∧ Hid (Below w.heap.size w wr) ∧ Hid (Blk wr w.heap.size 107 zc256) ∧
      ∃ cs : Array Value, Hid (Blk wr (w.heap.size + 1) 107 cs) ∧ Hid (cs.size = 256) ∧ Hid (∀ j, j < k → cs[j]? = some (.int .u8 ((Gfp.gm c j : Nat) : Int)))) (fun i _ => (256 - intOf i).toNat)
  case atStart =>
    refine ⟨1, rfl, by omega, by omega, hB, hb1, zc256, hb2, by simp [zc256, Hid], fun j hj => ?_⟩
    obtain rfl : j = 0 := by omega
    rw [Gfp.gm_zero]; rfl
  case round =>
    obtain ⟨k, rfl, hk1, hk, HB, Hb1, cs, Hb2, Hs, Hc⟩ := hrel
    by_cases hlt : k < 256
    · have hcell : wr.cell? ⟨w.heap.size + 1, k / 2, none⟩ = some (.int .u8 ((Gfp.gm c (k / 2) : Nat) : Int)) := by
        rw [Hb2.out.cell, Hc.out _ (by omega)]
      have hfro : wr.frozen? ⟨w.heap.size + 1, k, none⟩ = false := Hb2.out.frozen _
      obtain ⟨v, hv⟩ : ∃ v, wr.cell? ⟨w.heap.size + 1, k, none⟩ = some v := by
        rw [Hb2.out.cell]
        have hlt2 : k < cs.size := by rw [Hs.out]; exact hlt
        exact ⟨cs[k], by simp [hlt2]⟩
      have hg := Gfp.gm_lt c (k / 2) hc
      have hxo := u8_xor_nat (Gfp.tw (Gfp.gm c (k / 2))) c (Gfp.tw_lt _) hc
      have hr := Gfp.gm_row c k hc hlt
      by_cases h1 : k % 2 = 1
      · have h2 : ((k : Int) % 2 == 1) = true := by rw [beq_iff_eq]; omega
        rw [if_pos h1] at hr
        replace hr := Lib.hid hr
        clear h1
        go_wp2_with fail; refine (twice_any _ _ hg).mono ?_; rintro e w' ⟨rfl, rfl⟩
        go_wp2_with fail
        clear hcell hfro hv
        go_roundw
        case rel =>
          refine ⟨k + 1, by go_num, by omega, by omega, (HB.out.setCell (p := ⟨w.heap.size + 1, k, none⟩) (Nat.le_succ _) _).setCell (p := ⟨w.heap.size + 1, k, none⟩) (Nat.le_succ _) _,
            (Hb1.out.far (p := ⟨w.heap.size + 1, k, none⟩) (Nat.ne_of_lt (Nat.lt_succ_self _)) _).far (p := ⟨w.heap.size + 1, k, none⟩) (Nat.ne_of_lt (Nat.lt_succ_self _)) _, _, (Hb2.out.set_ _ _).set_ _ _, by simpa [Hid] using Hs.out, fun j hj => ?_⟩
          rw [Array.getElem?_setIfInBounds, Array.getElem?_setIfInBounds]
          by_cases hjk : k = j
          · subst hjk
            simp [Hs.out, hlt, hr.out]
          · rw [if_neg hjk, if_neg hjk]; exact Hc.out j (by omega)
        case measure => simp [intOf]; omega
      · have h2 : ((k : Int) % 2 == 1) = false := by rw [beq_eq_false_iff_ne]; omega
        rw [if_neg h1] at hr
        replace hr := Lib.hid hr
        clear h1 hxo
        go_wp2_with fail; refine (twice_any _ _ hg).mono ?_; rintro e w' ⟨rfl, rfl⟩
        go_wp2_with fail
        clear hcell hfro hv
        go_roundw
        case rel =>
          refine ⟨k + 1, by go_num, by omega, by omega, HB.out.setCell (p := ⟨w.heap.size + 1, k, none⟩) (Nat.le_succ _) _,
            Hb1.out.far (p := ⟨w.heap.size + 1, k, none⟩) (Nat.ne_of_lt (Nat.lt_succ_self _)) _, _, Hb2.out.set_ _ _, by simpa [Hid] using Hs.out, fun j hj => ?_⟩
          rw [Array.getElem?_setIfInBounds]
          by_cases hjk : k = j
          · subst hjk
            simp [Hs.out, hlt, hr.out]
          · rw [if_neg hjk]; exact Hc.out j (by omega)
        case measure => simp [intOf]; omega
    · have hcs : cs = rowCells c := by
        apply Array.ext_getElem?
        intro j
        by_cases hj : j < 256
        · rw [Hc.out j (by omega), rowCells_at c j hj]
        · rw [Array.getElem?_eq_none (by rw [Hs.out]; omega), Array.getElem?_eq_none (by rw [rowCells_size]; omega)]
      subst hcs
      have hsz : (Tryd.prog.info? 107).map (·.size) = some (rowCells c).size := by rw [rowCells_size]; exact (zero_of_info info_arr).2
      replace hsz := Lib.hid hsz
      clear Hc Hs hz
      go_wp2_with (first
        | (refine wpList_load_row rfl 107 _ rfl (w.heap.size + 1) rfl 107 (rowCells c) (0, 0) _ Hb2.out Tryd.underlying107 rfl hsz.out ?_)
        | (refine wpList_store_row rfl 107 _ _ rfl w.heap.size (rowCells c) rfl rfl 107 zc256 Hb1.out hsz.out (zc256_size c) (rowCells_one c) ?_))
      exact bodyPost_ret (results_cell_row rfl _ _ w.heap.size 107 (rowCells c) (0, 0) _ rfl (Hb1.out.row _) Tryd.underlying107 rfl hsz.out) rfl ⟨rfl, below_row HB.out (Nat.le_refl _) _⟩

theorem xor8 (a b : UInt8) : bits .xor .u8 (a.toNat : Int) (b.toNat : Int) = ((a ^^^ b).toNat : Int) := by
  rw [u8_xor_nat _ _ a.toNat_lt b.toNat_lt, UInt8.toNat_xor]
theorem getD_of {xs : List UInt8} {k : Nat} {b : UInt8} (h : xs[k]? = some b) : xs.getD k 0 = b := by
  rw [List.getD_eq_getElem?_getD, h]; rfl


theorem info_u8 : (Tryd.prog.info? 5).map (fun i => (i.zero, i.size, i.bytes)) = some (some (.int .u8 0), 1, 1) := by kernel_rfl

set_option maxRecDepth 100000 in
set_option maxHeartbeats 1000000 in
theorem add_any (A A' : Option Addr) (n n' c c' : Nat) (xs ys : List UInt8) (f : UInt8) (w : World) (h1 : Reads w w.heap.size 1 A n (xs.map B8)) (h2 : Reads w w.heap.size 1 A' n' (ys.map B8)) (hn : n ≤ 1000000000) (hn' : n' ≤ 1000000000) :
    Calls Tryd.prog 59 #[.slice A n c, .int .u8 (f.toNat : Int), .slice A' n' c'] w (SlErr 5 w (addR xs f ys) (eLen xs ys)) := by
  have l1 := h1.len
  have l2 := h2.len
  by_cases hnn : n = n'
  · subst hnn
    have Hr : Hid (addR xs f ys = addL xs f ys ∧ eLen xs ys = 0) := ⟨if_pos (by omega), if_pos (by omega)⟩
    have H1 := Lib.hid h1
    have H2 := Lib.hid h2
    have L1 := Lib.hid l1
    clear h1 h2 l1 l2
    obtain ⟨i0, hi, hz0, hz1, hz2⟩ := info_parts info_u8
    have hz := (zero_of_info info_arr).1
    have hsz : (Tryd.prog.info? 107).map (·.size) = some (rowCells f.toNat).size := by rw [rowCells_size]; exact (zero_of_info info_arr).2
    replace hsz := Lib.hid hsz
    replace hi := Lib.hid hi; replace hz0 := Lib.hid hz0; replace hz1 := Lib.hid hz1; replace hz2 := Lib.hid hz2
    go_enter Tryd.func59, Tryd.ntmps59
    go_wp2_with fail
    refine (row_any _ _ f.toNat_lt).mono ?_; rintro e w1 ⟨rfl, hB1⟩
    replace hB1 := Lib.hid hB1
    go_wp2_with (first
      | (refine wpList_store_box rfl 107 _ _ rfl w1.heap.size (rowCells f.toNat) rfl rfl 107 zc256 (Blk.new _ _ _) hsz.out (zc256_size _) (rowCells_one _) ?_; intro w2 hb2 hf2 hB2 hs2; replace hb2 := Lib.hid hb2; replace hf2 := Lib.hid hf2; replace hB2 := Lib.hid hB2; replace hs2 := Lib.hid hs2)
      | (at_make; refine wpList_make_full _ rfl _ _ 27 rfl w.heap.size 5 i0 (.int .u8 0) 1 Tryd.underlying27 hi.out hz0.out hz1.out .i64 .i64 _ _ n rfl rfl rfl rfl ?_ ?_ ?_ ?_; rotate_left 3; intro w3 hown3 hg3; replace hown3 := Lib.hid hown3; replace hg3 := Lib.hid hg3))
    rotate_left 1
    · rw [hz2.out]; omega
    · unfold maxLen; omega
    · rw [hs2.out]; simp; have := hB1.out.size; omega
    have hgl : w1.heap.size < w2.heap.size := by rw [hs2.out]; simp
    have hwl : w.heap.size ≤ w1.heap.size := hB1.out.size
    have hb3 : Hid (Blk w3 w1.heap.size 107 (rowCells f.toNat)) := hb2.out.grown hg3.out (by simp)
    have hB3 : Hid (Below w.heap.size w w3) := (hB2.out _ _ (hB1.out.alloc hwl _) hwl).grown hg3.out (by omega) (by simp)
    have hown : Hid (w3.ownsRow w.heap.size 5 1 (.slice (some ⟨w2.heap.size, 0, none⟩) n n) n (madeCells #[Value.int .u8 0] n).toList) := by
      have h := hown3.out; rw [Nat.mul_one] at h; exact h
    clear hown3 hg3 hb2 hf2 hB2 hs2 hB1 hz hi hz0 hz1 hz2
    generalize w2.heap.size = g at *
    generalize w1.heap.size = g1 at *
    go_loopw [24] (fun i wr => ∃ k : Nat, i = .int .i64 k ∧ k ≤ n ∧ Hid (Below w.heap.size w wr) ∧ Hid (Blk wr g1 107 (rowCells f.toNat)) ∧
      ∃ cs : List Value, Hid (wr.ownsRow w.heap.size 5 1 (.slice (some ⟨g, 0, none⟩) n n) n cs) ∧ Hid (∀ j, j < k → cs[j]? = some (B8 (xs.getD j 0 ^^^ fm f (ys.getD j 0))))) (fun i _ => n - (intOf i).toNat)
    case atStart => exact ⟨0, rfl, by omega, hB3, hb3, _, hown, fun j hj => absurd hj (by omega)⟩
    case round =>
      obtain ⟨k, rfl, hk, HB, Hb, cs, Ho, Hc⟩ := hrel
      by_cases hlt : k < n
      · obtain ⟨ad, x, rfl, hb, hx, hcx⟩ := (H1.out.below HB.out).byte hlt
        obtain ⟨ad', y, rfl, hb', hy, hcy⟩ := (H2.out.below HB.out).byte hlt
        have hrow : wr.cell? ⟨g1, y.toNat, none⟩ = some (.int .u8 ((fm f y).toNat : Int)) := by
          rw [Hb.out.cell, rowCells_at _ _ y.toNat_lt, fm_toNat]
        have hfro : wr.frozen? ⟨g, k, none⟩ = false := Ho.out.frozenAt k
        obtain ⟨v, hv⟩ : ∃ v, wr.cell? ⟨g, k, none⟩ = some v := by
          rw [Ho.out.cellAt k (by omega)]
          have hl : k < cs.length := by have := Ho.out.1; omega
          exact ⟨cs[k], List.getElem?_eq_getElem hl⟩
        have Hv : Hid (xs.getD k 0 = x ∧ ys.getD k 0 = y) := ⟨getD_of hx, getD_of hy⟩
        have hxo := xor8 x (fm f y)
        have bx : x.toNat < 256 := x.toNat_lt
        have by' : y.toNat < 256 := y.toNat_lt
        clear hx hy hb hb'
        go_wp2_with fail
        clear hrow hfro hv hcx hcy
        go_roundw
        case rel =>
          obtain ⟨ho2, hg2⟩ := Ho.out.stored k (.int .u8 ((x.toNat ^^^ (fm f y).toNat : Nat) : Int))
          refine ⟨k + 1, by go_num, by omega, HB.out.setCell (p := ⟨g, k, none⟩) (by show w.heap.size ≤ g; omega) _, Hb.out.far (p := ⟨g, k, none⟩) (by show g1 ≠ g; omega) _, _, ho2, fun j hj => ?_⟩
          by_cases hjk : k = j
          · subst hjk
            have hl : k < cs.length := by have := Ho.out.1; omega
            rw [List.getElem?_set_self hl, Hv.out.1, Hv.out.2, B8, UInt8.toNat_xor]
          · rw [List.getElem?_set_ne hjk]; exact Hc.out j (by omega)
        case measure => simp [intOf]; omega
      · obtain rfl : k = n := by omega
        have hcs : cs = (addL xs f ys).map B8 := by
          apply List.ext_getElem?
          intro j
          by_cases hj : j < k
          · rw [Hc.out j hj, List.getElem?_map, addL_getElem? _ _ _ _ (by rw [L1.out]; exact hj)]; rfl
          · rw [List.getElem?_eq_none (by have := Ho.out.1; omega), List.getElem?_eq_none (by rw [List.length_map, addL_length, L1.out]; omega)]
        subst hcs
        go_wp2_with fail
        go_ret2
        have hlen : (addL xs f ys).length = k := by rw [addL_length, L1.out]
        refine ⟨some ⟨g, 0, none⟩, k, ?_, ?_⟩
        · rw [Hr.out.1, Hr.out.2, hlen]; rfl
        · rw [Hr.out.1, hlen]; exact ⟨Ho.out, HB.out⟩
  · have he : ((n : Int) != (n' : Int)) = true := by rw [bne_iff_ne]; omega
    have Hr : Hid (addR xs f ys = [] ∧ eLen xs ys = 13) := ⟨if_neg (by omega), if_neg (by omega)⟩
    clear hnn h1 h2 l1 l2
    go_enter Tryd.func59, Tryd.ntmps59
    go_wp2_with fail
    go_ret2
    exact ⟨none, 0, by rw [Hr.out.1, Hr.out.2]; rfl, by rw [Hr.out.1]; exact Fresh.nil w _⟩


end Go.Proofs.YtjbedcgacnnanaaDoor.Gfb

namespace Go.Proofs.YtjbedcgacnnanaaDoor

section
variable {P : Program} {ops : Array Oper} {Q : Exit → Act → World → Prop} {md : Region.Mode} {S : World → Prop} {n : Nat}
theorem drop_at {i : Nat} {oi : Oper} {rest : List Oper} (hi : ops.toList.drop i = oi :: rest) : ops[i]? = some oi := by
  have h : (ops.toList.drop i)[0]? = some oi := by rw [hi]; rfl
  rw [List.getElem?_drop, Nat.add_zero, Array.getElem?_toList] at h
  exact h

/-- whatever order is picked from here on, and S holds behind each of the first n operations -/
def wpAnyE (P : Program) (md : Region.Mode) (ops : Array Oper) (Q : Exit → Act → World → Prop) (S : World → Prop) (n : Nat) : Nat → Array Bool → Act → World → Prop
  | 0, listed, a, w => Region.ready md ops listed = [] ∧ Q .normal a w
  | fuel + 1, listed, a, w =>
    (Region.ready md ops listed = [] → Q .normal a w) ∧
    ∀ i ∈ Region.ready md ops listed, wpOp P ops Q i (fun a' w' => (i < n → S w') ∧ wpAnyE P md ops Q S n fuel (listed.setIfInBounds i true) a' w') a w
theorem wpAny_of_E : ∀ (fuel : Nat) (listed : Array Bool) (a : Act) (w : World), wpAnyE P md ops Q S n fuel listed a w → wpAny P md ops Q fuel listed a w
  | 0, _, _, _, h => h
  | fuel + 1, _, _, _, h => ⟨h.1, fun i hi => wpOp_mono (fun a' w' h' => wpAny_of_E fuel _ a' w' h'.2) (h.2 i hi)⟩
/-- each operation from the n-th on waits for number i -/
def lateB (md : Region.Mode) (ops : Array Oper) (n i : Nat) : Bool := (List.range ops.size).all fun j => decide (j < n) || (match ops[j]? with | some o => o.after.any (fun e => Region.binds md e && e.on == i) | none => true)
theorem lateB_spec {i : Nat} (h : lateB md ops n i = true) : ∀ j oj, ops[j]? = some oj → n ≤ j → ∃ e ∈ oj.after, Region.binds md e = true ∧ e.on = i := by
  intro j oj hj hn
  have hjs : j < ops.size := (Array.getElem?_eq_some_iff.1 hj).1
  have h1 := List.all_eq_true.1 h j (List.mem_range.2 hjs)
  simp only [hj, Bool.or_eq_true, decide_eq_true_eq] at h1
  rcases h1 with h1 | h1
  · omega
  · rw [Array.any_eq_true] at h1
    obtain ⟨k, hk, h1⟩ := h1
    rw [Bool.and_eq_true, beq_iff_eq] at h1
    exact ⟨_, Array.getElem_mem hk, h1.1, h1.2⟩
theorem wpAnyE_first {i : Nat} {oi : Oper} {v : Value} (hi : ops[i]? = some oi) (hsel : ∀ (j : Nat) (o : Oper) cs b, ops[j]? = some o → o.op ≠ .select cs b)
    (hl : ∀ j oj, ops[j]? = some oj → n ≤ j → ∃ e ∈ oj.after, Region.binds md e = true ∧ e.on = i)
    (hQ : ∀ c a w, Q (.panic c) (a.put oi.dst v) w → Q (.panic c) a w) :
    ∀ (fuel : Nat) (listed : Array Bool) (a : Act) (w : World),
      (∀ j oj, ops[j]? = some oj → j ≠ i → listed.getD j true = false → (∀ e ∈ oj.after, Region.binds md e = true → e.on ≠ i) → oi.apart ops oj = true) →
      i ∈ Region.ready md ops listed → YieldsIf P ops S oi v a → S w →
      wpAnyE P md ops Q S n fuel (listed.setIfInBounds i true) (a.put oi.dst v) w → wpAnyE P md ops Q S n (fuel + 1) listed a w := by
  intro fuel
  induction fuel with
  | zero =>
    intro listed a w _ hr hy hS H
    refine ⟨fun h => (by rw [h] at hr; cases hr), fun j hj => ?_⟩
    by_cases hji : j = i
    · subst hji; exact hy.wpOp hi hS ⟨fun _ => hS, H⟩
    · have := ready_mono hj hji
      rw [H.1] at this
      cases this
  | succ fuel ih =>
    intro listed a w hfree hr hy hS H
    refine ⟨fun h => (by rw [h] at hr; cases hr), fun j hj => ?_⟩
    by_cases hji : j = i
    · subst hji; exact hy.wpOp hi hS ⟨fun _ => hS, H⟩
    · have h1 := H.2 j (ready_mono hj hji)
      obtain ⟨hjun, oj, hoj, hall⟩ := mem_ready.1 hj
      have hnot : ∀ e ∈ oj.after, Region.binds md e = true → e.on ≠ i := fun e he hb heq => by
        have h1 := hall e he hb
        have h0 := (mem_ready.1 hr).1
        rw [heq] at h1
        rcases Nat.lt_or_ge i listed.size with h' | h'
        · simp [h'] at h0 h1; rw [h0] at h1; cases h1
        · simp [Array.getElem?_eq_none h'] at h1
      have hjn : j < n := by
        rcases Nat.lt_or_ge j n with h' | h'
        · exact h'
        · obtain ⟨e, he, hb, heq⟩ := hl j oj hoj h'
          exact absurd heq (hnot e he hb)
      have h2 := wpOp_putIf hoj (hfree j oj hoj hji hjun hnot) (fun cs b => hsel i oi cs b hi) (fun cs b => hsel j oj cs b hoj) hQ hy h1
      have hfree' : ∀ k ok, ops[k]? = some ok → k ≠ i → (listed.setIfInBounds j true).getD k true = false →
          (∀ e ∈ ok.after, Region.binds md e = true → e.on ≠ i) → oi.apart ops ok = true := fun k ok hk hki hun hno => by
        refine hfree k ok hk hki ?_ hno
        by_cases hjk : j = k
        · subst hjk; exact hjun
        · rw [getD_set_ne true hjk] at hun; exact hun
      refine wpOp_mono (fun a' w' h3 => ⟨fun _ => h3.2.1 hjn, ih (listed.setIfInBounds j true) a' w' hfree' (ready_mono hr (Ne.symm hji)) h3.1 (h3.2.1 hjn) ?_⟩) h2
      rw [Array.setIfInBounds_comm _ _ hji]
      exact h3.2.2
/-- an operation that reads is taken -/
theorem took (i : Nat) {oi : Oper} {rest : List Oper} {v : Value} {fuel : Nat} {listed : Array Bool} {a : Act} {w : World} (hi : ops.toList.drop i = oi :: rest)
    (hs : Region.noSelect ops = true) (hf : Region.free md ops listed i = true) (hr : (Region.ready md ops listed).contains i = true) (hl : lateB md ops n i = true)
    (hQ : ∀ c a w, Q (.panic c) (a.put oi.dst v) w → Q (.panic c) a w) (hw : Region.wanted oi (yielded ops a.tmps) = true) (hS : S w)
    (hy : ∀ w, S w → (execOp a.eval oi).run P w = .ok (.value v) w)
    (h : wpAnyE P md ops Q S n fuel (listed.setIfInBounds i true) (a.put oi.dst v) w) : wpAnyE P md ops Q S n (fuel + 1) listed a w :=
  wpAnyE_first (drop_at hi) (Region.noSelect_spec hs) (lateB_spec hl) hQ fuel listed a w (Region.free_spec (drop_at hi) hf) (by simpa using hr) (Or.inl ⟨hw, hy⟩) hS h
/-- an operation that its guard passes over -/
theorem passed (i : Nat) {oi : Oper} {rest : List Oper} {fuel : Nat} {listed : Array Bool} {a : Act} {w : World} (hi : ops.toList.drop i = oi :: rest)
    (hs : Region.noSelect ops = true) (hf : Region.free md ops listed i = true) (hr : (Region.ready md ops listed).contains i = true) (hl : lateB md ops n i = true)
    (hQ : ∀ c a w, Q (.panic c) (a.put oi.dst undef) w → Q (.panic c) a w) (hw : Region.wanted oi (yielded ops a.tmps) = false) (hS : S w)
    (h : wpAnyE P md ops Q S n fuel (listed.setIfInBounds i true) (a.put oi.dst undef) w) : wpAnyE P md ops Q S n (fuel + 1) listed a w :=
  wpAnyE_first (drop_at hi) (Region.noSelect_spec hs) (lateB_spec hl) hQ fuel listed a w (Region.free_spec (drop_at hi) hf) (by simpa using hr) (Or.inr ⟨hw, rfl⟩) hS h
theorem carriedIf (i : Nat) {oi : Oper} {rest : List Oper} {fuel : Nat} {listed : Array Bool} {a : Act} {w : World} (hi : ops.toList.drop i = oi :: rest)
    (hr : Region.ready md ops listed = [i])
    (h : ∀ K' : Act → World → Prop, Shut (∀ a w, (i < n → S w) → ((i < n → S w) → wpAnyE P md ops Q S n fuel (listed.setIfInBounds i true) a w) → K' a w) → if Region.wanted oi (yielded ops a.tmps) = true then Oper.wp P oi a w K' Q else K' (a.put oi.dst undef) w) : wpAnyE P md ops Q S n (fuel + 1) listed a w := by
  refine ⟨fun h0 => absurd (h0.symm.trans hr) (by simp), fun j hj => ?_⟩
  rw [hr] at hj
  obtain rfl : j = i := by simpa using hj
  exact wpOp_step (drop_at hi) (fun K' hK => h K' (fun a w hS hW => hK a w ⟨hS, hW hS⟩))
/-- the one operation that may come up is carried out; S is shown anew behind it -/
theorem carried (i : Nat) {oi : Oper} {rest : List Oper} {fuel : Nat} {listed : Array Bool} {a : Act} {w : World} (hi : ops.toList.drop i = oi :: rest)
    (hr : Region.ready md ops listed = [i]) (hw : Region.wanted oi (yielded ops a.tmps) = true)
    (h : ∀ K' : Act → World → Prop, Shut (∀ a w, S w → (S w → wpAnyE P md ops Q S n fuel (listed.setIfInBounds i true) a w) → K' a w) → Oper.wp P oi a w K' Q) : wpAnyE P md ops Q S n (fuel + 1) listed a w :=
  carriedIf i hi hr fun K' hK => by rw [if_pos hw]; exact h K' fun a w hS hW => hK.out a w (fun _ => hS) fun _ => hW hS
/-- the same, by a law on the operation that bears its guard -/
theorem carriedL (i : Nat) {oi : Oper} {rest : List Oper} {fuel : Nat} {listed : Array Bool} {a : Act} {w : World} (hi : ops.toList.drop i = oi :: rest)
    (hr : Region.ready md ops listed = [i])
    (h : ∀ K' : Act → World → Prop, Shut (∀ a w, S w → (S w → wpAnyE P md ops Q S n fuel (listed.setIfInBounds i true) a w) → K' a w) → if Region.wanted oi (yielded ops a.tmps) = true then Oper.wp P oi a w K' Q else K' (a.put oi.dst undef) w) : wpAnyE P md ops Q S n (fuel + 1) listed a w :=
  carriedIf i hi hr fun K' hK => h K' fun a w hS hW => hK.out a w (fun _ => hS) fun _ => hW hS
/-- one of the late operations: nothing is asked of S any more -/
theorem lately (i : Nat) {oi : Oper} {rest : List Oper} {fuel : Nat} {listed : Array Bool} {a : Act} {w : World} (hi : ops.toList.drop i = oi :: rest)
    (hr : Region.ready md ops listed = [i]) (hn : ¬ i < n) (hw : Region.wanted oi (yielded ops a.tmps) = true)
    (h : ∀ K' : Act → World → Prop, Shut (∀ a w, wpAnyE P md ops Q S n fuel (listed.setIfInBounds i true) a w → K' a w) → Oper.wp P oi a w K' Q) : wpAnyE P md ops Q S n (fuel + 1) listed a w :=
  carriedIf i hi hr fun K' hK => by rw [if_pos hw]; exact h K' fun a w hW => hK.out a w (fun h => absurd h hn) fun _ => hW
theorem latelyL (i : Nat) {oi : Oper} {rest : List Oper} {fuel : Nat} {listed : Array Bool} {a : Act} {w : World} (hi : ops.toList.drop i = oi :: rest)
    (hr : Region.ready md ops listed = [i]) (hn : ¬ i < n)
    (h : ∀ K' : Act → World → Prop, Shut (∀ a w, wpAnyE P md ops Q S n fuel (listed.setIfInBounds i true) a w → K' a w) → if Region.wanted oi (yielded ops a.tmps) = true then Oper.wp P oi a w K' Q else K' (a.put oi.dst undef) w) : wpAnyE P md ops Q S n (fuel + 1) listed a w :=
  carriedIf i hi hr fun K' hK => h K' fun a w hW => hK.out a w (fun h => absurd h hn) fun _ => hW
theorem allDone {listed : Array Bool} {a : Act} {w : World} (hr : Region.ready md ops listed = []) (h : Q .normal a w) : ∀ fuel, wpAnyE P md ops Q S n fuel listed a w
  | 0 => ⟨hr, h⟩
  | _ + 1 => ⟨fun _ => h, by rw [hr]; simp⟩
/-- the beginning: S behind the draw; the first n operations keep it -/
theorem region_E (n : Nat) (S : World → Prop) {id : Nat} {a : Act} {w : World} (hm : P.follows .mixedOrders = true) (hS : S w.drew)
    (h : S w.drew → wpAnyE P .any ops Q S n ops.size (Array.replicate ops.size false) a w.drew) : (Code.region id ops true).wp P Q a w :=
  wp_region_any hm (wpAny_of_E _ _ _ _ (h hS))
end
end Go.Proofs.YtjbedcgacnnanaaDoor

namespace Go.Proofs.YtjbedcgacnnanaaDoor.Reg2

section
variable {P : Program} {ops : Array Oper} {Q : Exit → Act → World → Prop} {md : Region.Mode} {S : World → Prop} {n : Nat}
/-- whatever order is picked from here on, and S holds behind each of the first n operations -/
def wpAnyE (P : Program) (md : Region.Mode) (ops : Array Oper) (Q : Exit → Act → World → Prop) (S : World → Prop) (n : Nat) : Nat → Array Bool → Act → World → Prop
  | 0, listed, a, w => Region.ready md ops listed = [] ∧ Q .normal a w
  | fuel + 1, listed, a, w =>
    (Region.ready md ops listed = [] → Q .normal a w) ∧
    ∀ i ∈ Region.ready md ops listed, wpOp P ops Q i (fun a' w' => (i < n → S w → S w') ∧ wpAnyE P md ops Q S n fuel (listed.setIfInBounds i true) a' w') a w
theorem wpAny_of_E : ∀ (fuel : Nat) (listed : Array Bool) (a : Act) (w : World), wpAnyE P md ops Q S n fuel listed a w → wpAny P md ops Q fuel listed a w
  | 0, _, _, _, h => h
  | fuel + 1, _, _, _, h => ⟨h.1, fun i hi => wpOp_mono (fun a' w' h' => wpAny_of_E fuel _ a' w' h'.2) (h.2 i hi)⟩
theorem wpAnyE_first {i : Nat} {oi : Oper} {v : Value} (hi : ops[i]? = some oi) (hsel : ∀ (j : Nat) (o : Oper) cs b, ops[j]? = some o → o.op ≠ .select cs b)
    (hl : ∀ j oj, ops[j]? = some oj → n ≤ j → ∃ e ∈ oj.after, Region.binds md e = true ∧ e.on = i)
    (hQ : ∀ c a w, Q (.panic c) (a.put oi.dst v) w → Q (.panic c) a w) :
    ∀ (fuel : Nat) (listed : Array Bool) (a : Act) (w : World),
      (∀ j oj, ops[j]? = some oj → j ≠ i → listed.getD j true = false → (∀ e ∈ oj.after, Region.binds md e = true → e.on ≠ i) → oi.apart ops oj = true) →
      i ∈ Region.ready md ops listed → YieldsIf P ops S oi v a → S w →
      wpAnyE P md ops Q S n fuel (listed.setIfInBounds i true) (a.put oi.dst v) w → wpAnyE P md ops Q S n (fuel + 1) listed a w := by
  intro fuel
  induction fuel with
  | zero =>
    intro listed a w _ hr hy hS H
    refine ⟨fun h => (by rw [h] at hr; cases hr), fun j hj => ?_⟩
    by_cases hji : j = i
    · subst hji; exact hy.wpOp hi hS ⟨fun _ h => h, H⟩
    · have := ready_mono hj hji
      rw [H.1] at this
      cases this
  | succ fuel ih =>
    intro listed a w hfree hr hy hS H
    refine ⟨fun h => (by rw [h] at hr; cases hr), fun j hj => ?_⟩
    by_cases hji : j = i
    · subst hji; exact hy.wpOp hi hS ⟨fun _ h => h, H⟩
    · have h1 := H.2 j (ready_mono hj hji)
      obtain ⟨hjun, oj, hoj, hall⟩ := mem_ready.1 hj
      have hnot : ∀ e ∈ oj.after, Region.binds md e = true → e.on ≠ i := fun e he hb heq => by
        have h1 := hall e he hb
        have h0 := (mem_ready.1 hr).1
        rw [heq] at h1
        rcases Nat.lt_or_ge i listed.size with h' | h'
        · simp [h'] at h0 h1; rw [h0] at h1; cases h1
        · simp [Array.getElem?_eq_none h'] at h1
      have hjn : j < n := by
        rcases Nat.lt_or_ge j n with h' | h'
        · exact h'
        · obtain ⟨e, he, hb, heq⟩ := hl j oj hoj h'
          exact absurd heq (hnot e he hb)
      have h2 := wpOp_putIf hoj (hfree j oj hoj hji hjun hnot) (fun cs b => hsel i oi cs b hi) (fun cs b => hsel j oj cs b hoj) hQ hy h1
      have hfree' : ∀ k ok, ops[k]? = some ok → k ≠ i → (listed.setIfInBounds j true).getD k true = false →
          (∀ e ∈ ok.after, Region.binds md e = true → e.on ≠ i) → oi.apart ops ok = true := fun k ok hk hki hun hno => by
        refine hfree k ok hk hki ?_ hno
        by_cases hjk : j = k
        · subst hjk; exact hjun
        · rw [getD_set_ne true hjk] at hun; exact hun
      refine wpOp_mono (fun a' w' h3 => ⟨fun _ h => h3.2.1 hjn h, ih (listed.setIfInBounds j true) a' w' hfree' (ready_mono hr (Ne.symm hji)) h3.1 (h3.2.1 hjn hS) ?_⟩) h2
      rw [Array.setIfInBounds_comm _ _ hji]
      exact h3.2.2
theorem wpAnyE_free {i : Nat} {oi : Oper} {v : Value} (hi : ops[i]? = some oi) (hsel : ∀ (j : Nat) (o : Oper) cs b, ops[j]? = some o → o.op ≠ .select cs b)
    (hQ : ∀ c a w, Q (.panic c) (a.put oi.dst v) w → Q (.panic c) a w) :
    ∀ (fuel : Nat) (listed : Array Bool) (a : Act) (w : World),
      (∀ j oj, ops[j]? = some oj → j ≠ i → listed.getD j true = false → (∀ e ∈ oj.after, Region.binds md e = true → e.on ≠ i) → oi.apart ops oj = true) →
      i ∈ Region.ready md ops listed → YieldsIf P ops (fun _ => True) oi v a →
      wpAnyE P md ops Q S n fuel (listed.setIfInBounds i true) (a.put oi.dst v) w → wpAnyE P md ops Q S n (fuel + 1) listed a w := by
  intro fuel
  induction fuel with
  | zero =>
    intro listed a w _ hr hy H
    refine ⟨fun h => (by rw [h] at hr; cases hr), fun j hj => ?_⟩
    by_cases hji : j = i
    · subst hji; exact hy.wpOp hi trivial ⟨fun _ h => h, H⟩
    · have := ready_mono hj hji
      rw [H.1] at this
      cases this
  | succ fuel ih =>
    intro listed a w hfree hr hy H
    refine ⟨fun h => (by rw [h] at hr; cases hr), fun j hj => ?_⟩
    by_cases hji : j = i
    · subst hji; exact hy.wpOp hi trivial ⟨fun _ h => h, H⟩
    · have h1 := H.2 j (ready_mono hj hji)
      obtain ⟨hjun, oj, hoj, hall⟩ := mem_ready.1 hj
      have hnot : ∀ e ∈ oj.after, Region.binds md e = true → e.on ≠ i := fun e he hb heq => by
        have h1 := hall e he hb
        have h0 := (mem_ready.1 hr).1
        rw [heq] at h1
        rcases Nat.lt_or_ge i listed.size with h' | h'
        · simp [h'] at h0 h1; rw [h0] at h1; cases h1
        · simp [Array.getElem?_eq_none h'] at h1
      have h2 := wpOp_putIf hoj (hfree j oj hoj hji hjun hnot) (fun cs b => hsel i oi cs b hi) (fun cs b => hsel j oj cs b hoj) hQ hy h1
      have hfree' : ∀ k ok, ops[k]? = some ok → k ≠ i → (listed.setIfInBounds j true).getD k true = false →
          (∀ e ∈ ok.after, Region.binds md e = true → e.on ≠ i) → oi.apart ops ok = true := fun k ok hk hki hun hno => by
        refine hfree k ok hk hki ?_ hno
        by_cases hjk : j = k
        · subst hjk; exact hjun
        · rw [getD_set_ne true hjk] at hun; exact hun
      refine wpOp_mono (fun a' w' h3 => ⟨fun hjn h => h3.2.1 hjn h, ih (listed.setIfInBounds j true) a' w' hfree' (ready_mono hr (Ne.symm hji)) h3.1 ?_⟩) h2
      rw [Array.setIfInBounds_comm _ _ hji]
      exact h3.2.2
/-- an operation that minds no memory -/
theorem freed (i : Nat) {oi : Oper} {rest : List Oper} {v : Value} {fuel : Nat} {listed : Array Bool} {a : Act} {w : World} (hi : ops.toList.drop i = oi :: rest)
    (hs : Region.noSelect ops = true) (hf : Region.free md ops listed i = true) (hr : (Region.ready md ops listed).contains i = true)
    (hQ : ∀ c a w, Q (.panic c) (a.put oi.dst v) w → Q (.panic c) a w) (hw : Region.wanted oi (yielded ops a.tmps) = true)
    (hy : ∀ w, (execOp a.eval oi).run P w = .ok (.value v) w)
    (h : wpAnyE P md ops Q S n fuel (listed.setIfInBounds i true) (a.put oi.dst v) w) : wpAnyE P md ops Q S n (fuel + 1) listed a w :=
  wpAnyE_free (drop_at hi) (Region.noSelect_spec hs) hQ fuel listed a w (Region.free_spec (drop_at hi) hf) (by simpa using hr) (Or.inl ⟨hw, fun w _ => hy w⟩) h
/-- an operation that reads is taken -/
theorem took (i : Nat) {oi : Oper} {rest : List Oper} {v : Value} {fuel : Nat} {listed : Array Bool} {a : Act} {w : World} (hi : ops.toList.drop i = oi :: rest)
    (hs : Region.noSelect ops = true) (hf : Region.free md ops listed i = true) (hr : (Region.ready md ops listed).contains i = true) (hl : lateB md ops n i = true)
    (hQ : ∀ c a w, Q (.panic c) (a.put oi.dst v) w → Q (.panic c) a w) (hw : Region.wanted oi (yielded ops a.tmps) = true) (hS : S w)
    (hy : ∀ w, S w → (execOp a.eval oi).run P w = .ok (.value v) w)
    (h : wpAnyE P md ops Q S n fuel (listed.setIfInBounds i true) (a.put oi.dst v) w) : wpAnyE P md ops Q S n (fuel + 1) listed a w :=
  wpAnyE_first (drop_at hi) (Region.noSelect_spec hs) (lateB_spec hl) hQ fuel listed a w (Region.free_spec (drop_at hi) hf) (by simpa using hr) (Or.inl ⟨hw, hy⟩) hS h
/-- an operation that its guard passes over -/
theorem passed (i : Nat) {oi : Oper} {rest : List Oper} {fuel : Nat} {listed : Array Bool} {a : Act} {w : World} (hi : ops.toList.drop i = oi :: rest)
    (hs : Region.noSelect ops = true) (hf : Region.free md ops listed i = true) (hr : (Region.ready md ops listed).contains i = true) (hl : lateB md ops n i = true)
    (hQ : ∀ c a w, Q (.panic c) (a.put oi.dst undef) w → Q (.panic c) a w) (hw : Region.wanted oi (yielded ops a.tmps) = false) (hS : S w)
    (h : wpAnyE P md ops Q S n fuel (listed.setIfInBounds i true) (a.put oi.dst undef) w) : wpAnyE P md ops Q S n (fuel + 1) listed a w :=
  wpAnyE_first (drop_at hi) (Region.noSelect_spec hs) (lateB_spec hl) hQ fuel listed a w (Region.free_spec (drop_at hi) hf) (by simpa using hr) (Or.inr ⟨hw, rfl⟩) hS h
theorem carriedIf (i : Nat) {oi : Oper} {rest : List Oper} {fuel : Nat} {listed : Array Bool} {a : Act} {w : World} (hi : ops.toList.drop i = oi :: rest)
    (hr : Region.ready md ops listed = [i])
    (h : ∀ K' : Act → World → Prop, Shut (∀ a w, (i < n → S w) → ((i < n → S w) → wpAnyE P md ops Q S n fuel (listed.setIfInBounds i true) a w) → K' a w) → if Region.wanted oi (yielded ops a.tmps) = true then Oper.wp P oi a w K' Q else K' (a.put oi.dst undef) w) : wpAnyE P md ops Q S n (fuel + 1) listed a w := by
  refine ⟨fun h0 => absurd (h0.symm.trans hr) (by simp), fun j hj => ?_⟩
  rw [hr] at hj
  obtain rfl : j = i := by simpa using hj
  exact wpOp_step (drop_at hi) (fun K' hK => h K' (fun a w hS hW => hK a w ⟨fun hi _ => hS hi, hW hS⟩))
/-- the one operation that may come up is carried out; S is shown anew behind it -/
theorem carried (i : Nat) {oi : Oper} {rest : List Oper} {fuel : Nat} {listed : Array Bool} {a : Act} {w : World} (hi : ops.toList.drop i = oi :: rest)
    (hr : Region.ready md ops listed = [i]) (hw : Region.wanted oi (yielded ops a.tmps) = true)
    (h : ∀ K' : Act → World → Prop, Shut (∀ a w, S w → (S w → wpAnyE P md ops Q S n fuel (listed.setIfInBounds i true) a w) → K' a w) → Oper.wp P oi a w K' Q) : wpAnyE P md ops Q S n (fuel + 1) listed a w :=
  carriedIf i hi hr fun K' hK => by rw [if_pos hw]; exact h K' fun a w hS hW => hK.out a w (fun _ => hS) fun _ => hW hS
/-- the same, by a law on the operation that bears its guard -/
theorem carriedL (i : Nat) {oi : Oper} {rest : List Oper} {fuel : Nat} {listed : Array Bool} {a : Act} {w : World} (hi : ops.toList.drop i = oi :: rest)
    (hr : Region.ready md ops listed = [i])
    (h : ∀ K' : Act → World → Prop, Shut (∀ a w, S w → (S w → wpAnyE P md ops Q S n fuel (listed.setIfInBounds i true) a w) → K' a w) → if Region.wanted oi (yielded ops a.tmps) = true then Oper.wp P oi a w K' Q else K' (a.put oi.dst undef) w) : wpAnyE P md ops Q S n (fuel + 1) listed a w :=
  carriedIf i hi hr fun K' hK => h K' fun a w hS hW => hK.out a w (fun _ => hS) fun _ => hW hS
/-- one of the late operations: nothing is asked of S any more -/
theorem lately (i : Nat) {oi : Oper} {rest : List Oper} {fuel : Nat} {listed : Array Bool} {a : Act} {w : World} (hi : ops.toList.drop i = oi :: rest)
    (hr : Region.ready md ops listed = [i]) (hn : ¬ i < n) (hw : Region.wanted oi (yielded ops a.tmps) = true)
    (h : ∀ K' : Act → World → Prop, Shut (∀ a w, wpAnyE P md ops Q S n fuel (listed.setIfInBounds i true) a w → K' a w) → Oper.wp P oi a w K' Q) : wpAnyE P md ops Q S n (fuel + 1) listed a w :=
  carriedIf i hi hr fun K' hK => by rw [if_pos hw]; exact h K' fun a w hW => hK.out a w (fun h => absurd h hn) fun _ => hW
theorem latelyL (i : Nat) {oi : Oper} {rest : List Oper} {fuel : Nat} {listed : Array Bool} {a : Act} {w : World} (hi : ops.toList.drop i = oi :: rest)
    (hr : Region.ready md ops listed = [i]) (hn : ¬ i < n)
    (h : ∀ K' : Act → World → Prop, Shut (∀ a w, wpAnyE P md ops Q S n fuel (listed.setIfInBounds i true) a w → K' a w) → if Region.wanted oi (yielded ops a.tmps) = true then Oper.wp P oi a w K' Q else K' (a.put oi.dst undef) w) : wpAnyE P md ops Q S n (fuel + 1) listed a w :=
  carriedIf i hi hr fun K' hK => h K' fun a w hW => hK.out a w (fun h => absurd h hn) fun _ => hW
theorem allDone {listed : Array Bool} {a : Act} {w : World} (hr : Region.ready md ops listed = []) (h : Q .normal a w) : ∀ fuel, wpAnyE P md ops Q S n fuel listed a w
  | 0 => ⟨hr, h⟩
  | _ + 1 => ⟨fun _ => h, by rw [hr]; simp⟩
/-- the beginning: S behind the draw; the first n operations keep it -/
theorem region_E (n : Nat) (S : World → Prop) {id : Nat} {a : Act} {w : World} (hm : P.follows .mixedOrders = true) (hS : S w.drew)
    (h : S w.drew → wpAnyE P .any ops Q S n ops.size (Array.replicate ops.size false) a w.drew) : (Code.region id ops true).wp P Q a w :=
  wp_region_any hm (wpAny_of_E _ _ _ _ (h hS))
end
end Go.Proofs.YtjbedcgacnnanaaDoor.Reg2
