/-
  The sum of bytes as plain numbers: shifts, bytes, parts, what is xored, what is joined. No program is in sight here.
-/
import Derived.KernelRfl
namespace Go.Proofs.YtjbedcgacnnanaaDoor
namespace Crcp
def pat : Nat := 3988292384
def bit1 (x : Nat) : Nat := if x % 2 = 1 then x / 2 ^^^ pat else x / 2
def bits : Nat → Nat → Nat
  | 0, x => x
  | n+1, x => bits n (bit1 x)
def run (x : Nat) (bs : List UInt8) : Nat := bs.foldl (fun x c => bits 8 (x ^^^ c.toNat)) x
def top : Nat := 4294967295
def more (s : Nat) (bs : List UInt8) : Nat := run (s ^^^ top) bs ^^^ top
def sum (bs : List UInt8) : Nat := more 0 bs

theorem div_xor (a b : Nat) : (a ^^^ b) / 2 = a / 2 ^^^ b / 2 := by
  have h := Nat.shiftRight_xor_distrib (a := a) (b := b) (i := 1)
  simpa [Nat.shiftRight_eq_div_pow] using h
theorem mod_xor (a b : Nat) : (a ^^^ b) % 2 = (a % 2) ^^^ (b % 2) := Nat.xor_mod_two_pow (n := 1)
theorem xor4 (a b c d : Nat) : (a ^^^ c) ^^^ (b ^^^ d) = (a ^^^ b) ^^^ (c ^^^ d) := by
  rw [Nat.xor_assoc, Nat.xor_assoc, ← Nat.xor_assoc c b d, Nat.xor_comm c b, Nat.xor_assoc b c d]
theorem bit1_xor (a b : Nat) : bit1 (a ^^^ b) = bit1 a ^^^ bit1 b := by
  unfold bit1
  rw [mod_xor, div_xor]
  rcases Nat.mod_two_eq_zero_or_one a with h | h <;> rcases Nat.mod_two_eq_zero_or_one b with h' | h' <;> simp only [h, h'] <;> simp only [Nat.reduceXor, if_true, if_false, Nat.zero_ne_one]
  · rw [Nat.xor_assoc]
  · rw [Nat.xor_assoc, Nat.xor_assoc, Nat.xor_comm _ pat]
  · rw [xor4, Nat.xor_self, Nat.xor_zero]
theorem bits_xor (n : Nat) : ∀ a b : Nat, bits n (a ^^^ b) = bits n a ^^^ bits n b := by
  induction n with
  | zero => intros; rfl
  | succ n ih => intro a b; simp only [bits]; rw [bit1_xor, ih]
theorem bits_zero (n : Nat) : bits n 0 = 0 := by
  have h := bits_xor n 0 0
  rw [Nat.xor_self] at h; rw [h]; exact Nat.xor_self _
theorem bits_add (m n : Nat) : ∀ x, bits (m + n) x = bits n (bits m x) := by
  induction m with
  | zero => intro x; rw [Nat.zero_add]; rfl
  | succ m ih => intro x; rw [Nat.succ_add]; exact ih (bit1 x)
theorem bit1_lt (x : Nat) (h : x < 4294967296) : bit1 x < 4294967296 := by
  unfold bit1
  split
  · exact Nat.xor_lt_two_pow (n := 32) (by omega) (by decide)
  · omega
theorem bits_lt (n : Nat) : ∀ x, x < 4294967296 → bits n x < 4294967296 := by
  induction n with
  | zero => intro x h; exact h
  | succ n ih => intro x h; exact ih _ (bit1_lt x h)
/-- one shift loses nothing -/
theorem bit1_eq_zero (x : Nat) (h : x < 4294967296) (e : bit1 x = 0) : x = 0 := by
  unfold bit1 at e
  split at e
  · have e2 : x / 2 = pat := by
      have := congrArg (· ^^^ pat) e
      simpa [Nat.xor_assoc] using this
    unfold pat at e2; omega
  · omega
theorem bits_eq_zero (n : Nat) : ∀ x, x < 4294967296 → bits n x = 0 → x = 0 := by
  induction n with
  | zero => intro x _ e; exact e
  | succ n ih => intro x h e; exact bit1_eq_zero x h (ih _ (bit1_lt x h) e)
theorem bits_inj (n x y : Nat) (hx : x < 4294967296) (hy : y < 4294967296) (e : bits n x = bits n y) : x = y := by
  have h : bits n (x ^^^ y) = 0 := by rw [bits_xor, e, Nat.xor_self]
  have h2 := bits_eq_zero n _ (Nat.xor_lt_two_pow (n := 32) hx hy) h
  have := congrArg (· ^^^ y) h2
  simpa [Nat.xor_assoc] using this
theorem bit1_double (x : Nat) : bit1 (2 * x) = x := by
  unfold bit1
  rw [if_neg (by omega)]; omega
theorem bits_pow (n : Nat) : ∀ x, bits n (2 ^ n * x) = x := by
  induction n with
  | zero => intro x; simp [bits]
  | succ n ih =>
    intro x
    simp only [bits]
    rw [show 2 ^ (n + 1) * x = 2 * (2 ^ n * x) by rw [Nat.pow_succ]; ac_rfl, bit1_double, ih]
/-- four shifts at once -/
def nib (x : Nat) : Nat := x / 16 ^^^ bits 4 (x % 16)
theorem split16 (x : Nat) : x = 2 ^ 4 * (x / 16) ^^^ x % 16 := by
  apply Nat.eq_of_testBit_eq
  intro i
  have e : x % 16 = x % 2 ^ 4 := rfl
  rw [Nat.testBit_xor, Nat.testBit_two_pow_mul, e, Nat.testBit_mod_two_pow]
  have e2 : x / 16 = x >>> 4 := by rw [Nat.shiftRight_eq_div_pow]
  rw [e2, Nat.testBit_shiftRight]
  by_cases h : i < 4
  · simp [h, Nat.not_le.2 h]
  · simp [h, Nat.not_lt.1 h, show 4 + (i - 4) = i by omega]
theorem nib_eq (x : Nat) : nib x = bits 4 x := by
  have h : bits 4 x = bits 4 (2 ^ 4 * (x / 16)) ^^^ bits 4 (x % 16) := by
    rw [← bits_xor, ← split16]
  rw [h, bits_pow]; rfl
theorem nib_nib (x : Nat) : nib (nib x) = bits 8 x := by rw [nib_eq, nib_eq, ← bits_add]

theorem run_nil (x : Nat) : run x [] = x := rfl
theorem run_cons (x : Nat) (c : UInt8) (bs : List UInt8) : run x (c :: bs) = run (bits 8 (x ^^^ c.toNat)) bs := rfl
theorem run_append (x : Nat) (a b : List UInt8) : run x (a ++ b) = run (run x a) b := by unfold run; rw [List.foldl_append]
theorem run_snoc (x : Nat) (a : List UInt8) (c : UInt8) : run x (a ++ [c]) = bits 8 (run x a ^^^ c.toNat) := by rw [run_append]; rfl
theorem run_lt (bs : List UInt8) : ∀ x, x < 4294967296 → run x bs < 4294967296 := by
  induction bs with
  | nil => intro x h; exact h
  | cons c bs ih =>
    intro x h
    rw [run_cons]
    refine ih _ (bits_lt _ _ (Nat.xor_lt_two_pow (n := 32) h ?_))
    have := c.toNat_lt; omega
theorem run_bits (bs : List UInt8) : ∀ x y, run (x ^^^ y) bs = run x bs ^^^ bits (8 * bs.length) y := by
  induction bs with
  | nil => intro x y; rfl
  | cons c bs ih =>
    intro x y
    rw [run_cons, run_cons]
    rw [show x ^^^ y ^^^ c.toNat = (x ^^^ c.toNat) ^^^ y by rw [Nat.xor_assoc, Nat.xor_comm y, ← Nat.xor_assoc], bits_xor, ih, ← bits_add]
    congr 2
    simp only [List.length_cons]; omega
theorem xor_lt (a b : Nat) (ha : a < 4294967296) (hb : b < 4294967296) : a ^^^ b < 4294967296 := Nat.xor_lt_two_pow (n := 32) ha hb
theorem top_lt : top < 4294967296 := by decide
theorem more_lt (s : Nat) (bs : List UInt8) (h : s < 4294967296) : more s bs < 4294967296 := xor_lt _ _ (run_lt bs _ (xor_lt _ _ h top_lt)) top_lt
theorem sum_lt (bs : List UInt8) : sum bs < 4294967296 := more_lt 0 bs (by omega)
theorem xor_top_top (a : Nat) : (a ^^^ top) ^^^ top = a := by rw [Nat.xor_assoc, Nat.xor_self, Nat.xor_zero]
theorem more_nil (s : Nat) : more s [] = s := by unfold more; rw [run_nil, xor_top_top]
theorem more_append (s : Nat) (a b : List UInt8) : more s (a ++ b) = more (more s a) b := by
  unfold more
  rw [xor_top_top, run_append]
theorem xor_top (x : Nat) (h : x < 4294967296) : x ^^^ top = top - x := by
  apply Nat.eq_of_testBit_eq
  intro i
  have e : top - x = 2 ^ 32 - (x + 1) := by unfold top; omega
  have e2 : top = 2 ^ 32 - 1 := rfl
  rw [e, Nat.testBit_two_pow_sub_succ (by omega), Nat.testBit_xor, e2, Nat.testBit_two_pow_sub_one]
  by_cases hi : i < 32
  · simp [hi]
  · have : x.testBit i = false := Nat.testBit_lt_two_pow (Nat.lt_of_lt_of_le h (Nat.pow_le_pow_right (n := 2) (i := 32) (by omega) (by omega)))
    simp [hi, this]
/-- the sum of what three lists are xored -/
theorem run_xor3 : ∀ (a b c : List UInt8) (x y z : Nat), a.length = b.length → a.length = c.length →
    run (x ^^^ y ^^^ z) (List.zipWith (· ^^^ ·) (List.zipWith (· ^^^ ·) a b) c) = run x a ^^^ run y b ^^^ run z c
  | [], [], [], x, y, z, _, _ => rfl
  | p :: a, q :: b, r :: c, x, y, z, h1, h2 => by
    simp only [List.zipWith_cons_cons]
    rw [run_cons, run_cons, run_cons, run_cons, ← run_xor3 a b c _ _ _ (by simpa using h1) (by simpa using h2), ← bits_xor, ← bits_xor]
    congr 2
    rw [UInt8.toNat_xor, UInt8.toNat_xor]
    ac_rfl
theorem sum_xor3 (a b c : List UInt8) (h1 : a.length = b.length) (h2 : a.length = c.length) :
    sum (List.zipWith (· ^^^ ·) (List.zipWith (· ^^^ ·) a b) c) = sum a ^^^ sum b ^^^ sum c := by
  unfold sum more
  have h := run_xor3 a b c (0 ^^^ top) (0 ^^^ top) (0 ^^^ top) h1 h2
  rw [show (0 ^^^ top) ^^^ (0 ^^^ top) ^^^ (0 ^^^ top) = 0 ^^^ top by decide] at h
  rw [h, xor4 (run (0 ^^^ top) a), Nat.xor_self, Nat.xor_zero, Nat.xor_assoc]
/-- joining -/
def join (a b n : Nat) : Nat := bits (8 * n) a ^^^ b
theorem sum_append (a b : List UInt8) : sum (a ++ b) = join (sum a) (sum b) b.length := by
  have h : sum (a ++ b) = more (sum a) b := more_append 0 a b
  rw [h]
  unfold more join
  rw [Nat.xor_comm (sum a), run_bits]
  unfold sum more
  rw [Nat.zero_xor, Nat.xor_assoc, Nat.xor_comm _ top, ← Nat.xor_assoc, Nat.xor_comm]
theorem join_join (a b m l : Nat) : join (join a 0 m) b l = join a b (m + l) := by
  unfold join
  rw [Nat.xor_zero, ← bits_add, Nat.mul_add]
/-! a sum as bytes; what is put and cut -/
def tail (s : Nat) : List UInt8 := [UInt8.ofNat s, UInt8.ofNat (s / 256), UInt8.ofNat (s / 65536), UInt8.ofNat (s / 16777216)]
def put (bs : List UInt8) : List UInt8 := bs ++ tail (sum bs)
def cutOk (bs : List UInt8) : Bool := decide (bs.drop (bs.length - 4) = tail (sum (bs.take (bs.length - 4))))
def cutE (bs : List UInt8) : Int := if bs.length < 4 then 1 else if cutOk bs then 0 else 5
def cutV (bs : List UInt8) : List UInt8 := if bs.length < 4 then [] else if cutOk bs then bs.take (bs.length - 4) else []
theorem tail_length (s : Nat) : (tail s).length = 4 := rfl
theorem tail_snoc (s k : Nat) (h : k < 4) : (tail s).take (k + 1) = (tail s).take k ++ [UInt8.ofNat (s / 256 ^ k)] := by
  rw [List.take_add_one]
  congr 1
  match k, h with
  | 0, _ => simp [tail]
  | 1, _ => simp [tail]
  | 2, _ => simp [tail]
  | 3, _ => simp [tail]
theorem put_length (bs : List UInt8) : (put bs).length = bs.length + 4 := by simp [put, tail_length]
theorem cutOk_put (bs : List UInt8) : cutOk (put bs) = true := by
  unfold cutOk
  rw [put_length, show bs.length + 4 - 4 = bs.length by omega]
  simp [put]
theorem cut_put (bs : List UInt8) : cutE (put bs) = 0 ∧ cutV (put bs) = bs := by
  unfold cutE cutV
  rw [cutOk_put, put_length]
  refine ⟨by rw [if_neg (by omega)]; rfl, ?_⟩
  rw [if_neg (by omega), show bs.length + 4 - 4 = bs.length by omega]
  simp [put]
/-- just what was put is right -/
theorem cutOk_iff (bs : List UInt8) : cutOk bs = decide (put (bs.take (bs.length - 4)) = bs) := by
  unfold cutOk put
  apply decide_eq_decide.2
  have e : bs = bs.take (bs.length - 4) ++ bs.drop (bs.length - 4) := (List.take_append_drop _ _).symm
  constructor
  · intro h2
    rw [← h2]; exact e.symm
  · intro h2
    have h3 : bs.take (bs.length - 4) ++ tail (sum (bs.take (bs.length - 4))) = bs.take (bs.length - 4) ++ bs.drop (bs.length - 4) := h2.trans e
    exact (List.append_cancel_left h3).symm

/-! bits turned -/
/-- the number of all bytes behind a state: what turning bits does to it -/
theorem run_xor : ∀ (a b : List UInt8) (x y : Nat), a.length = b.length → run (x ^^^ y) (List.zipWith (· ^^^ ·) a b) = run x a ^^^ run y b
  | [], [], x, y, _ => rfl
  | p :: a, q :: b, x, y, h => by
    simp only [List.zipWith_cons_cons]
    rw [run_cons, run_cons, run_cons, ← run_xor a b _ _ (by simpa using h), ← bits_xor]
    congr 2
    rw [UInt8.toNat_xor]
    ac_rfl
theorem split256 (x : Nat) : x = x % 256 ^^^ 2 ^ 8 * (x / 256) := by
  apply Nat.eq_of_testBit_eq
  intro i
  have e : x % 256 = x % 2 ^ 8 := rfl
  rw [Nat.testBit_xor, Nat.testBit_two_pow_mul, e, Nat.testBit_mod_two_pow]
  have e2 : x / 256 = x >>> 8 := by rw [Nat.shiftRight_eq_div_pow]
  rw [e2, Nat.testBit_shiftRight]
  by_cases h : i < 8
  · simp [h, Nat.not_le.2 h]
  · simp [h, Nat.not_lt.1 h, show 8 + (i - 8) = i by omega]
theorem bits8_split (y s : Nat) : bits 8 (y ^^^ s) = bits 8 (y ^^^ s % 256) ^^^ s / 256 := by
  have h : y ^^^ s = (y ^^^ s % 256) ^^^ 2 ^ 8 * (s / 256) := by
    rw [Nat.xor_assoc]
    exact congrArg (y ^^^ ·) (split256 s)
  rw [h, bits_xor, bits_pow]
/-- four bytes of a sum run over the state that made it: always the same -/
theorem run_tail (x : Nat) (hx : x < 4294967296) : run x (tail (x ^^^ top)) = bits 32 top := by
  have h4 : ∀ s y, s < 4294967296 → run y (tail s) = bits 32 (y ^^^ s) := by
    intro s y hs
    have hb : ∀ m, (UInt8.ofNat m).toNat = m % 256 := fun m => by rw [UInt8.toNat_ofNat']
    unfold tail
    rw [run_cons, run_cons, run_cons, run_cons, run_nil, hb, hb, hb, hb]
    rw [show 32 = 8 + (8 + (8 + 8)) from rfl, bits_add, bits_add, bits_add]
    rw [bits8_split y s, bits8_split _ (s / 256), Nat.div_div_eq_div_mul, bits8_split _ (s / (256 * 256)), Nat.div_div_eq_div_mul, bits8_split _ (s / (256 * 256 * 256)), Nat.div_div_eq_div_mul]
    have h0 : s / (256 * 256 * 256 * 256) = 0 := Nat.div_eq_of_lt (by omega)
    rw [h0, Nat.xor_zero]
  rw [h4 _ _ (xor_lt _ _ hx top_lt), ← Nat.xor_assoc, Nat.xor_self, Nat.zero_xor]
end Crcp
end Go.Proofs.YtjbedcgacnnanaaDoor
