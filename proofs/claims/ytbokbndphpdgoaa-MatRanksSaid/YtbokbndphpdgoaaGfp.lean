/-
  The field of 256 elements as plain numbers: products by xor and doubling, their laws, powers, logarithms, and the reference's product. No program is in sight here.
-/
import Derived.KernelRfl
namespace Go.Proofs.Ytbokbndphpdgoaa
namespace Gfp

/-- A function of numbers below 2^n that turns xor into xor is known by what it makes of the powers of 2. -/
theorem xor_split (k x : Nat) (h : x < 2 ^ (k + 1)) : ∃ y, y < 2 ^ k ∧ (x = y ∨ x = y ^^^ 2 ^ k) := by
  by_cases hx : x < 2 ^ k
  · exact ⟨x, hx, .inl rfl⟩
  · refine ⟨x ^^^ 2 ^ k, ?_, .inr (by rw [Nat.xor_assoc, Nat.xor_self, Nat.xor_zero])⟩
    have hb : x.testBit k = true := by
      rw [Nat.testBit_eq_decide_div_mod_eq]
      have : x / 2 ^ k = 1 := by
        have h2 : 2 ^ (k + 1) = 2 * 2 ^ k := by rw [Nat.pow_succ, Nat.mul_comm]
        rw [Nat.div_eq_of_lt_le] <;> omega
      simp [this]
    refine Nat.lt_pow_two_of_testBit _ fun j hj => ?_
    rw [Nat.testBit_xor]
    by_cases hjk : j = k
    · subst hjk; rw [hb, Nat.testBit_two_pow_self]; rfl
    · rw [Nat.testBit_lt_two_pow (Nat.lt_of_lt_of_le h (Nat.pow_le_pow_right (by omega) (by omega))), Nat.testBit_two_pow_of_ne (by omega)]; rfl

theorem lin_zero (f : Nat → Nat) (hf : f (0 ^^^ 0) = f 0 ^^^ f 0) : f 0 = 0 := by
  rw [Nat.xor_self] at hf
  rw [hf]; exact Nat.xor_self _

theorem lin_ext (n : Nat) (f g : Nat → Nat) (hf : ∀ x y, x < 2 ^ n → y < 2 ^ n → f (x ^^^ y) = f x ^^^ f y) (hg : ∀ x y, x < 2 ^ n → y < 2 ^ n → g (x ^^^ y) = g x ^^^ g y)
    (h : ∀ i, i < n → f (2 ^ i) = g (2 ^ i)) : ∀ x, x < 2 ^ n → f x = g x := by
  have key : ∀ k, k ≤ n → ∀ x, x < 2 ^ k → f x = g x := by
    intro k
    induction k with
    | zero =>
      intro _ x hx
      obtain rfl : x = 0 := by simpa using hx
      have h0 : 0 < 2 ^ n := Nat.two_pow_pos n
      rw [lin_zero f (hf 0 0 h0 h0), lin_zero g (hg 0 0 h0 h0)]
    | succ k ih =>
      intro hk x hx
      have hk2 : 2 ^ k < 2 ^ n := Nat.pow_lt_pow_right (by omega) (by omega)
      obtain ⟨y, hy, rfl | rfl⟩ := xor_split k x hx
      · exact ih (by omega) x hy
      · rw [hf y _ (by omega) hk2, hg y _ (by omega) hk2, ih (by omega) y hy, h k (by omega)]
  exact key n (Nat.le_refl n)

def tw (a : Nat) : Nat := if a.testBit 7 then (a <<< 1) % 256 ^^^ 29 else (a <<< 1) % 256
def mulGo : Nat → Nat → Nat → Nat → Nat
  | 0, _, _, out => out
  | k+1, a, b, out => mulGo k (tw a) (b / 2) (if b % 2 = 1 then out ^^^ a else out)
def gm (a b : Nat) : Nat := mulGo 8 a b 0

theorem xor_mod256 (a b : Nat) : (a ^^^ b) % 256 = a % 256 ^^^ b % 256 := Nat.xor_mod_two_pow (n := 8)
theorem tw_lt (a : Nat) : tw a < 256 := by
  unfold tw
  split
  · exact Nat.xor_lt_two_pow (n := 8) (by omega) (by omega)
  · omega
theorem xor4 (a b c d : Nat) : (a ^^^ c) ^^^ (b ^^^ d) = (a ^^^ b) ^^^ (c ^^^ d) := by
  rw [Nat.xor_assoc, Nat.xor_assoc, ← Nat.xor_assoc c b d, Nat.xor_comm c b, Nat.xor_assoc b c d]
theorem tw_xor (a b : Nat) : tw (a ^^^ b) = tw a ^^^ tw b := by
  unfold tw
  rw [Nat.shiftLeft_xor_distrib, xor_mod256, Nat.testBit_xor]
  generalize (a <<< 1) % 256 = p
  generalize (b <<< 1) % 256 = q
  cases a.testBit 7 <;> cases b.testBit 7 <;> simp [Nat.xor_assoc, Nat.xor_comm 29]
theorem div_xor (a b : Nat) : (a ^^^ b) / 2 = a / 2 ^^^ b / 2 := by
  have h := Nat.shiftRight_xor_distrib (a := a) (b := b) (i := 1)
  simpa [Nat.shiftRight_eq_div_pow] using h
theorem mod_xor (a b : Nat) : (a ^^^ b) % 2 = (a % 2) ^^^ (b % 2) := Nat.xor_mod_two_pow (n := 1)

theorem mulGo_xor_left (k : Nat) : ∀ a a' b o o' : Nat, mulGo k (a ^^^ a') b (o ^^^ o') = mulGo k a b o ^^^ mulGo k a' b o' := by
  induction k with
  | zero => intros; rfl
  | succ k ih =>
    intro a a' b o o'
    simp only [mulGo]
    rw [tw_xor]
    split
    · rw [← ih, xor4]
    · rw [← ih]
theorem mulGo_xor_right (k : Nat) : ∀ a b b' o o' : Nat, mulGo k a (b ^^^ b') (o ^^^ o') = mulGo k a b o ^^^ mulGo k a b' o' := by
  induction k with
  | zero => intros; rfl
  | succ k ih =>
    intro a b b' o o'
    simp only [mulGo]
    rw [div_xor, mod_xor]
    rcases Nat.mod_two_eq_zero_or_one b with h | h <;> rcases Nat.mod_two_eq_zero_or_one b' with h' | h' <;> simp only [h, h'] <;> simp only [Nat.reduceXor, if_true, if_false, Nat.zero_ne_one] <;> rw [← ih]
    · congr 1
      rw [Nat.xor_assoc]
    · congr 1
      rw [Nat.xor_assoc, Nat.xor_assoc, Nat.xor_comm a o']
    · congr 1
      rw [xor4, Nat.xor_self, Nat.xor_zero]
theorem gm_xor_left (a a' b : Nat) : gm (a ^^^ a') b = gm a b ^^^ gm a' b := mulGo_xor_left 8 a a' b 0 0
theorem gm_xor_right (a b b' : Nat) : gm a (b ^^^ b') = gm a b ^^^ gm a b' := mulGo_xor_right 8 a b b' 0 0

theorem mulGo_lt (k : Nat) : ∀ a b o : Nat, a < 256 → o < 256 → mulGo k a b o < 256 := by
  induction k with
  | zero => intro a b o _ h; exact h
  | succ k ih =>
    intro a b o ha ho
    simp only [mulGo]
    refine ih _ _ _ (tw_lt a) ?_
    split
    · exact Nat.xor_lt_two_pow (n := 8) ho ha
    · exact ho
theorem mulGo_zero (k : Nat) : ∀ a o : Nat, mulGo k a 0 o = o := by
  induction k with
  | zero => intros; rfl
  | succ k ih => intro a o; simp only [mulGo]; exact ih _ _
theorem gm_lt (a b : Nat) (ha : a < 256) : gm a b < 256 := mulGo_lt 8 a b 0 ha (by omega)

def allUpto : Nat → (Nat → Bool) → Bool
  | 0, _ => true
  | n+1, p => p n && allUpto n p
theorem of_allUpto (p : Nat → Bool) : ∀ n, allUpto n p = true → ∀ i, i < n → p i = true := by
  intro n
  induction n with
  | zero => intro _ i hi; omega
  | succ n ih =>
    intro h i hi
    simp only [allUpto, Bool.and_eq_true] at h
    by_cases hin : i = n
    · rw [hin]; exact h.1
    · exact ih h.2 i (by omega)

theorem basis_comm : allUpto 8 (fun i => allUpto 8 fun j => Nat.beq (gm (2 ^ i) (2 ^ j)) (gm (2 ^ j) (2 ^ i))) = true := by decide +kernel
theorem basis_assoc : allUpto 8 (fun i => allUpto 8 fun j => allUpto 8 fun k => Nat.beq (gm (gm (2 ^ i) (2 ^ j)) (2 ^ k)) (gm (2 ^ i) (gm (2 ^ j) (2 ^ k)))) = true := by decide +kernel
theorem basis_one : allUpto 8 (fun i => Nat.beq (gm (2 ^ i) 1) (2 ^ i)) = true := by decide +kernel

theorem gm_comm (a b : Nat) (ha : a < 256) (hb : b < 256) : gm a b = gm b a := by
  refine lin_ext 8 (fun a => gm a b) (fun a => gm b a) (fun x y _ _ => gm_xor_left x y b) (fun x y _ _ => gm_xor_right b x y) (fun i hi => ?_) a ha
  refine lin_ext 8 (fun b => gm (2 ^ i) b) (fun b => gm b (2 ^ i)) (fun x y _ _ => gm_xor_right _ x y) (fun x y _ _ => gm_xor_left x y _) (fun j hj => ?_) b hb
  exact Nat.eq_of_beq_eq_true (of_allUpto _ 8 (of_allUpto _ 8 basis_comm i hi) j hj)
theorem gm_assoc (a b c : Nat) (ha : a < 256) (hb : b < 256) (hc : c < 256) : gm (gm a b) c = gm a (gm b c) := by
  refine lin_ext 8 (fun a => gm (gm a b) c) (fun a => gm a (gm b c)) (fun x y _ _ => ?_) (fun x y _ _ => gm_xor_left x y _) (fun i hi => ?_) a ha
  · show gm (gm (x ^^^ y) b) c = _
    rw [gm_xor_left, gm_xor_left]
  refine lin_ext 8 (fun b => gm (gm (2 ^ i) b) c) (fun b => gm (2 ^ i) (gm b c)) (fun x y _ _ => ?_) (fun x y _ _ => ?_) (fun j hj => ?_) b hb
  · show gm (gm _ (x ^^^ y)) c = _
    rw [gm_xor_right, gm_xor_left]
  · show gm _ (gm (x ^^^ y) c) = _
    rw [gm_xor_left, gm_xor_right]
  refine lin_ext 8 (fun c => gm (gm (2 ^ i) (2 ^ j)) c) (fun c => gm (2 ^ i) (gm (2 ^ j) c)) (fun x y _ _ => gm_xor_right _ x y) (fun x y _ _ => ?_) (fun k hk => ?_) c hc
  · show gm _ (gm _ (x ^^^ y)) = _
    rw [gm_xor_right, gm_xor_right]
  exact Nat.eq_of_beq_eq_true (of_allUpto _ 8 (of_allUpto _ 8 (of_allUpto _ 8 basis_assoc i hi) j hj) k hk)
theorem gm_one (a : Nat) (ha : a < 256) : gm a 1 = a := by
  refine lin_ext 8 (fun a => gm a 1) (fun a => a) (fun x y _ _ => gm_xor_left x y 1) (fun x y _ _ => rfl) (fun i hi => ?_) a ha
  exact Nat.eq_of_beq_eq_true (of_allUpto _ 8 basis_one i hi)
theorem one_gm (a : Nat) (ha : a < 256) : gm 1 a = a := by rw [gm_comm 1 a (by omega) ha, gm_one a ha]
theorem gm_zero (a : Nat) : gm a 0 = 0 := lin_zero (fun b => gm a b) (gm_xor_right a 0 0)
theorem zero_gm (a : Nat) : gm 0 a = 0 := lin_zero (fun b => gm b a) (gm_xor_left 0 0 a)

/-- The 254th power, by squares and products: the inverse. -/
def sq (a : Nat) : Nat := gm a a
def inv (a : Nat) : Nat :=
  let p2 := sq a; let p4 := sq p2; let p8 := sq p4; let p16 := sq p8; let p32 := sq p16; let p64 := sq p32; let p128 := sq p64
  gm (gm (gm (gm (gm (gm p2 p4) p8) p16) p32) p64) p128
theorem inv_all : allUpto 255 (fun a => Nat.beq (gm (a + 1) (inv (a + 1))) 1) = true := by decide +kernel
theorem gm_inv (a : Nat) (h0 : a ≠ 0) (ha : a < 256) : gm a (inv a) = 1 := by
  have h := of_allUpto _ 255 inv_all (a - 1) (by omega)
  have e : a - 1 + 1 = a := by omega
  rw [e] at h
  exact Nat.eq_of_beq_eq_true h
theorem sq_lt (a : Nat) (h : a < 256) : sq a < 256 := gm_lt a a h
theorem inv_lt (a : Nat) (ha : a < 256) : inv a < 256 := by
  unfold inv
  have h2 := sq_lt a ha
  repeat (first | exact h2 | (refine gm_lt _ _ ?_))
theorem gm_eq_zero (a b : Nat) (ha : a < 256) (hb : b < 256) (h : gm a b = 0) : a = 0 ∨ b = 0 := by
  by_cases h0 : a = 0
  · exact .inl h0
  · right
    have e : gm (gm (inv a) a) b = 0 := by rw [gm_assoc _ _ _ (inv_lt a ha) ha hb, h, gm_zero]
    rw [gm_comm _ a (inv_lt a ha) ha, gm_inv a h0 ha, one_gm b hb] at e
    exact e

/-! twice is the product by 2; a row -/
theorem basis_two : allUpto 8 (fun i => Nat.beq (tw (2 ^ i)) (gm (2 ^ i) 2)) = true := by decide +kernel
theorem tw_eq (a : Nat) (ha : a < 256) : tw a = gm a 2 := by
  refine lin_ext 8 tw (fun a => gm a 2) (fun x y _ _ => tw_xor x y) (fun x y _ _ => gm_xor_left x y 2) (fun i hi => ?_) a ha
  exact Nat.eq_of_beq_eq_true (of_allUpto _ 8 basis_two i hi)
theorem tw_small (j : Nat) (h : j < 128) : tw j = 2 * j := by
  unfold tw
  rw [Nat.testBit_lt_two_pow (i := 7) (by omega), Nat.shiftLeft_eq]
  simp; omega
theorem gm_even (c j : Nat) (hc : c < 256) (h : j < 128) : gm c (2 * j) = tw (gm c j) := by
  rw [← tw_small j h, tw_eq _ (by omega), tw_eq _ (gm_lt c j hc), gm_assoc c j 2 hc (by omega) (by omega)]
theorem gm_odd (c j : Nat) (hc : c < 256) (h : j < 128) : gm c (2 * j + 1) = tw (gm c j) ^^^ c := by
  have e : 2 * j + 1 = (2 * j) ^^^ 1 := by
    apply Nat.eq_of_testBit_eq; intro i
    rw [Nat.testBit_xor]
    cases i with
    | zero => simp [Nat.testBit_zero]
    | succ i => simp [Nat.testBit_succ]; congr 1; omega
  rw [e, gm_xor_right, gm_even c j hc h, gm_one c hc]
theorem gm_row (c i : Nat) (hc : c < 256) (hi : i < 256) : gm c i = if i % 2 = 1 then tw (gm c (i / 2)) ^^^ c else tw (gm c (i / 2)) := by
  split
  · have e : i = 2 * (i / 2) + 1 := by omega
    rw [e]
    rw [gm_odd c (i / 2) hc (by omega)]
    congr 3; omega
  · have e : i = 2 * (i / 2) := by omega
    rw [e]
    rw [gm_even c (i / 2) hc (by omega)]
    congr 2
    omega

/-! powers -/
def gpow (a : Nat) : Nat → Nat
  | 0 => 1
  | n+1 => gm (gpow a n) a
theorem gpow_lt (a n : Nat) : gpow a n < 256 := by
  cases n with
  | zero => simp [gpow]
  | succ n =>
    induction n with
    | zero => exact gm_lt 1 a (by omega)
    | succ n ih => exact gm_lt _ _ ih
theorem gpow_one (a : Nat) (ha : a < 256) : gpow a 1 = a := one_gm a ha
theorem gpow_add (a n m : Nat) (ha : a < 256) : gpow a (n + m) = gm (gpow a n) (gpow a m) := by
  induction m with
  | zero => rw [Nat.add_zero]; exact (gm_one _ (gpow_lt a n)).symm
  | succ m ih =>
    show gm (gpow a (n + m)) a = gm (gpow a n) (gm (gpow a m) a)
    rw [ih, gm_assoc _ _ _ (gpow_lt a n) (gpow_lt a m) ha]
theorem gpow_mul (a n m : Nat) (ha : a < 256) : gpow a (n * m) = gpow (gpow a n) m := by
  induction m with
  | zero => rfl
  | succ m ih => rw [Nat.mul_succ, gpow_add a _ _ ha, ih]; rfl
theorem one_gpow (n : Nat) : gpow 1 n = 1 := by
  induction n with
  | zero => rfl
  | succ n ih => show gm (gpow 1 n) 1 = 1; rw [ih]; exact one_gm 1 (by omega)
theorem zero_gpow (n : Nat) (h : n ≠ 0) : gpow 0 n = 0 := by
  cases n with
  | zero => exact absurd rfl h
  | succ n => exact gm_zero _
theorem gpow_two (a : Nat) (ha : a < 256) : gpow a 2 = gm a a := by
  show gm (gm 1 a) a = _
  rw [one_gm a ha]
theorem gpow_double (a n : Nat) (ha : a < 256) : gpow a (2 * n) = gpow (gm a a) n := by rw [gpow_mul a 2 n ha, gpow_two a ha]
theorem sq_gpow (a n : Nat) (ha : a < 256) : sq (gpow a n) = gpow a (n + n) := (gpow_add a n n ha).symm
theorem inv_eq_gpow (a : Nat) (ha : a < 256) : inv a = gpow a 254 := by
  have e1 : a = gpow a 1 := (gpow_one a ha).symm
  have e2 : sq a = gpow a 2 := (gpow_two a ha).symm
  unfold inv
  simp only [e2, sq_gpow a _ ha, ← gpow_add a _ _ ha]
theorem gpow_255 (a : Nat) (h0 : a ≠ 0) (ha : a < 256) : gpow a 255 = 1 := by
  show gm (gpow a 254) a = 1
  rw [← inv_eq_gpow a ha, gm_comm _ a (inv_lt a ha) ha, gm_inv a h0 ha]
theorem gpow_mod (a n : Nat) (h0 : a ≠ 0) (ha : a < 256) : gpow a (n % 255) = gpow a n := by
  have e : n = 255 * (n / 255) + n % 255 := by omega
  rw [e, gpow_add a _ _ ha, gpow_mul a 255 _ ha, gpow_255 a h0 ha, one_gpow, one_gm _ (gpow_lt _ _)]
  congr 1; omega
theorem gpow_ne_zero (a n : Nat) (h0 : a ≠ 0) (ha : a < 256) : gpow a n ≠ 0 := by
  intro h
  have e : gpow a (n * 255) = 0 := by rw [gpow_mul a n 255 ha, h]; rfl
  rw [Nat.mul_comm, gpow_mul a 255 n ha, gpow_255 a h0 ha, one_gpow] at e
  cases e

/-- the power by squares: what the loop keeps -/
theorem gpow_step_odd (o a n : Nat) (ho : o < 256) (ha : a < 256) (h : n % 2 = 1) : gm (gm o a) (gpow (gm a a) (n / 2)) = gm o (gpow a n) := by
  have e : n = 2 * (n / 2) + 1 := by omega
  have e2 : gpow a n = gm (gpow a (2 * (n / 2))) a := by
    rw [e]
    rw [gpow]
    congr 2; omega
  rw [e2, ← gpow_double a _ ha, gm_assoc o a _ ho ha (gpow_lt _ _), gm_comm a _ ha (gpow_lt _ _)]
theorem gpow_step_even (o a n : Nat) (ha : a < 256) (h : ¬ n % 2 = 1) : gm o (gpow (gm a a) (n / 2)) = gm o (gpow a n) := by
  rw [← gpow_double a _ ha, show 2 * (n / 2) = n by omega]

/-! the powers of 2 -/
def twN : Nat → Nat → Nat
  | 0, x => x
  | n+1, x => twN n (tw x)
theorem twN_gpow (n : Nat) : ∀ k, twN n (gpow 2 k) = gpow 2 (k + n) := by
  induction n with
  | zero => intro k; rfl
  | succ n ih =>
    intro k
    show twN n (tw (gpow 2 k)) = _
    rw [tw_eq _ (gpow_lt 2 k)]
    show twN n (gpow 2 (k + 1)) = _
    rw [ih]; congr 1; omega
/-- no power of 2 between the first and the 255th is 1 -/
def noneOne : Nat → Nat → Bool
  | 0, _ => true
  | n+1, x => !(Nat.beq x 1) && noneOne n (tw x)
theorem noneOne_all : noneOne 254 2 = true := by decide +kernel
theorem noneOne_spec (n : Nat) : ∀ k, noneOne n (gpow 2 k) = true → ∀ i, i < n → gpow 2 (k + i) ≠ 1 := by
  induction n with
  | zero => intro k _ i hi; omega
  | succ n ih =>
    intro k h i hi
    simp only [noneOne, Bool.and_eq_true, Bool.not_eq_true'] at h
    rw [tw_eq _ (gpow_lt 2 k)] at h
    cases i with
    | zero => intro he; rw [Nat.add_zero] at he; rw [he] at h; exact absurd h.1 (by decide)
    | succ i =>
      have h2 := ih (k + 1) h.2 i (by omega)
      rw [show k + (i + 1) = k + 1 + i by omega]; exact h2
theorem gpow2_ne_one (n : Nat) (h1 : 0 < n) (h2 : n < 255) : gpow 2 n ≠ 1 := by
  have h := noneOne_spec 254 1 noneOne_all (n - 1) (by omega)
  rw [show 1 + (n - 1) = n by omega] at h; exact h
theorem gpow2_lt (n m : Nat) (h : n < m) (hm : m < 255) : gpow 2 n ≠ gpow 2 m := by
  intro he
  have e : gpow 2 (m + (255 - n)) = 1 := by
    rw [gpow_add 2 _ _ (by omega), ← he, ← gpow_add 2 _ _ (by omega), show n + (255 - n) = 255 by omega]
    exact gpow_255 2 (by omega) (by omega)
  rw [← gpow_mod 2 _ (by omega) (by omega)] at e
  exact gpow2_ne_one _ (by omega) (by omega) e
theorem gpow2_inj (n m : Nat) (hn : n < 255) (hm : m < 255) (h : gpow 2 n = gpow 2 m) : n = m := by
  rcases Nat.lt_trichotomy n m with hl | hl | hl
  · exact absurd h (gpow2_lt n m hl hm)
  · exact hl
  · exact absurd h.symm (gpow2_lt m n hl hn)
/-- the logarithm: how many steps from x on -/
def logGo : Nat → Nat → Nat → Nat
  | 0, _, _ => 0
  | n+1, x, a => if x = a then 0 else logGo n (tw x) a + 1
def glog (a : Nat) : Nat := logGo 255 1 a
def logOk (a : Nat) : Bool := Nat.blt (glog a) 255 && Nat.beq (twN (glog a) 1) a
theorem glog_all : allUpto 255 (fun a => logOk (a + 1)) = true := by decide +kernel
theorem glog_lt (a : Nat) (h0 : a ≠ 0) (ha : a < 256) : glog a < 255 := by
  have h := of_allUpto _ 255 glog_all (a - 1) (by omega)
  rw [show a - 1 + 1 = a by omega] at h
  simp only [logOk, Bool.and_eq_true, Nat.blt_eq] at h; exact h.1
theorem gpow_glog (a : Nat) (h0 : a ≠ 0) (ha : a < 256) : gpow 2 (glog a) = a := by
  have h := of_allUpto _ 255 glog_all (a - 1) (by omega)
  rw [show a - 1 + 1 = a by omega] at h
  simp only [logOk, Bool.and_eq_true] at h
  have h2 := Nat.eq_of_beq_eq_true h.2
  have h3 := twN_gpow (glog a) 0
  rw [Nat.zero_add] at h3
  rw [← h3]; exact h2

/-! inverses, quotients, logarithms as the functions tell them -/
/-- the inverse, kept behind a name -/
@[irreducible] def invV (a : Nat) : Nat := gpow a 254
theorem invV_eq (a : Nat) : invV a = gpow a 254 := by unfold invV; rfl
theorem invV_lt (a : Nat) : invV a < 256 := by rw [invV_eq]; exact gpow_lt _ _
theorem invV_zero : invV 0 = 0 := by rw [invV_eq]; exact zero_gpow 254 (by omega)
def e13 (a : Nat) : Int := if a = 0 then 13 else 0
def divV (a b : Nat) : Nat := gm a (invV b)
def logV (a : Nat) : Nat := if a = 0 then 0 else glog a
theorem gm_invV (a : Nat) (h0 : a ≠ 0) (ha : a < 256) : gm a (invV a) = 1 := by rw [invV_eq, ← inv_eq_gpow a ha, gm_inv a h0 ha]
theorem gm_cancel (a x y : Nat) (h0 : a ≠ 0) (ha : a < 256) (hx : x < 256) (hy : y < 256) (h : gm a x = gm a y) : x = y := by
  have e : ∀ z, z < 256 → gm (invV a) (gm a z) = z := fun z hz => by
    rw [← gm_assoc _ _ _ (invV_lt _) ha hz, gm_comm _ a (invV_lt _) ha, gm_invV a h0 ha, one_gm z hz]
  rw [← e x hx, h, e y hy]
theorem inv_unique (a x : Nat) (ha : a < 256) (hx : x < 256) (h : gm a x = 1) : x = invV a := by
  have h0 : a ≠ 0 := by rintro rfl; rw [zero_gm] at h; cases h
  exact gm_cancel a _ _ h0 ha hx (invV_lt _) (by rw [h, gm_invV a h0 ha])
theorem divV_lt (a b : Nat) (ha : a < 256) : divV a b < 256 := gm_lt _ _ ha
theorem gm_divV (a b : Nat) (h0 : b ≠ 0) (ha : a < 256) (hb : b < 256) : gm b (divV a b) = a := by
  unfold divV
  rw [gm_comm a _ ha (invV_lt _), ← gm_assoc _ _ _ hb (invV_lt _) ha, gm_invV b h0 hb, one_gm a ha]
theorem div_unique (a b x : Nat) (h0 : b ≠ 0) (ha : a < 256) (hb : b < 256) (hx : x < 256) (h : gm b x = a) : x = divV a b :=
  gm_cancel b _ _ h0 hb hx (divV_lt a b ha) (by rw [h, gm_divV a b h0 ha hb])
theorem divV_zero (a : Nat) : divV a 0 = 0 := by
  unfold divV
  rw [invV_zero, gm_zero]
theorem divV_gm (a b : Nat) (h0 : b ≠ 0) (ha : a < 256) (hb : b < 256) : divV (gm a b) b = a := by
  unfold divV
  rw [gm_assoc _ _ _ ha hb (invV_lt _), gm_invV b h0 hb, gm_one a ha]
theorem invV_pos (a : Nat) (h0 : a ≠ 0) (ha : a < 256) : 0 < invV a := by
  rw [invV_eq]
  have := gpow_ne_zero a 254 h0 ha
  omega

/-! the reference's product: polynomials -/
def upGo : Nat → Nat → Nat → Nat → Nat
  | 0, _, _, p => p
  | k+1, x, b, p => upGo k x b (if (b >>> (7 - k)) % 2 = 1 then p ^^^ (x <<< (7 - k)) else p)
def downGo : Nat → Nat → Nat
  | 0, p => p
  | k+1, p => downGo k (if (p >>> (k + 8)) % 2 = 1 then p ^^^ (285 <<< k) else p)
def rm (a b : Nat) : Nat := downGo 7 (upGo 8 a b 0)
theorem shr_mod_xor (p q k : Nat) : ((p ^^^ q) >>> k) % 2 = ((p >>> k) % 2) ^^^ ((q >>> k) % 2) := by rw [Nat.shiftRight_xor_distrib, mod_xor]
theorem upGo_xor_left (k : Nat) : ∀ x y b p q : Nat, upGo k (x ^^^ y) b (p ^^^ q) = upGo k x b p ^^^ upGo k y b q := by
  induction k with
  | zero => intros; rfl
  | succ k ih =>
    intro x y b p q
    simp only [upGo]
    split
    · rw [← ih, Nat.shiftLeft_xor_distrib, xor4]
    · rw [← ih]
theorem upGo_xor_right (k : Nat) : ∀ x b c p q : Nat, upGo k x (b ^^^ c) (p ^^^ q) = upGo k x b p ^^^ upGo k x c q := by
  induction k with
  | zero => intros; rfl
  | succ k ih =>
    intro x b c p q
    simp only [upGo]
    rw [shr_mod_xor]
    rcases Nat.mod_two_eq_zero_or_one (b >>> (7 - k)) with h | h <;> rcases Nat.mod_two_eq_zero_or_one (c >>> (7 - k)) with h' | h' <;> simp only [h, h'] <;> simp only [Nat.reduceXor, if_true, if_false, Nat.zero_ne_one] <;> rw [← ih]
    · congr 1
      rw [Nat.xor_assoc]
    · congr 1
      rw [Nat.xor_assoc, Nat.xor_assoc, Nat.xor_comm _ q]
    · congr 1
      rw [xor4, Nat.xor_self, Nat.xor_zero]
theorem downGo_xor (k : Nat) : ∀ p q : Nat, downGo k (p ^^^ q) = downGo k p ^^^ downGo k q := by
  induction k with
  | zero => intros; rfl
  | succ k ih =>
    intro p q
    simp only [downGo]
    rw [shr_mod_xor]
    rcases Nat.mod_two_eq_zero_or_one (p >>> (k + 8)) with h | h <;> rcases Nat.mod_two_eq_zero_or_one (q >>> (k + 8)) with h' | h' <;> simp only [h, h'] <;> simp only [Nat.reduceXor, if_true, if_false, Nat.zero_ne_one] <;> rw [← ih]
    · congr 1
      rw [Nat.xor_assoc]
    · congr 1
      rw [Nat.xor_assoc, Nat.xor_assoc, Nat.xor_comm _ q]
    · congr 1
      rw [xor4, Nat.xor_self, Nat.xor_zero]
theorem basis_rm : allUpto 8 (fun i => allUpto 8 fun j => Nat.beq (rm (2 ^ i) (2 ^ j)) (gm (2 ^ i) (2 ^ j))) = true := by decide +kernel
theorem rm_eq (a b : Nat) (ha : a < 256) (hb : b < 256) : rm a b = gm a b := by
  have hl : ∀ x y c, rm (x ^^^ y) c = rm x c ^^^ rm y c := fun x y c => by
    unfold rm
    rw [← downGo_xor, ← upGo_xor_left, Nat.xor_self]
  have hr : ∀ c x y, rm c (x ^^^ y) = rm c x ^^^ rm c y := fun c x y => by
    unfold rm
    rw [← downGo_xor, ← upGo_xor_right, Nat.xor_self]
  refine lin_ext 8 (fun a => rm a b) (fun a => gm a b) (fun x y _ _ => hl x y b) (fun x y _ _ => gm_xor_left x y b) (fun i hi => ?_) a ha
  refine lin_ext 8 (fun b => rm (2 ^ i) b) (fun b => gm (2 ^ i) b) (fun x y _ _ => hr _ x y) (fun x y _ _ => gm_xor_right _ x y) (fun j hj => ?_) b hb
  exact Nat.eq_of_beq_eq_true (of_allUpto _ 8 (of_allUpto _ 8 basis_rm i hi) j hj)

end Gfp
end Go.Proofs.Ytbokbndphpdgoaa
