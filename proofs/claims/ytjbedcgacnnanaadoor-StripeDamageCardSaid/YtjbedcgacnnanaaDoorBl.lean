/-
  Texts put together: Lin Lin2 Lin3 Lin4.
-/
import Derived.Test.YtjbedcgacnnanaaDoorBa
namespace Go.Proofs.YtjbedcgacnnanaaDoor.Lin
set_option linter.unusedVariables false
set_option linter.unusedSimpArgs false

theorem xor4 (a b c d : UInt8) : (a ^^^ b) ^^^ (c ^^^ d) = (a ^^^ c) ^^^ (b ^^^ d) := by
  rw [UInt8.xor_assoc, UInt8.xor_assoc, ← UInt8.xor_assoc b c d, UInt8.xor_comm b c, UInt8.xor_assoc c b d]
/-- the sum of the first n of them -/
def sum (f : Nat → UInt8) : Nat → UInt8
  | 0 => 0
  | k + 1 => sum f k ^^^ f k
theorem sum_congr {f g : Nat → UInt8} : ∀ n, (∀ t, t < n → f t = g t) → sum f n = sum g n
  | 0, _ => rfl
  | n + 1, h => by rw [sum, sum, sum_congr n (fun t ht => h t (by omega)), h n (by omega)]
theorem sum_zero {f : Nat → UInt8} : ∀ n, (∀ t, t < n → f t = 0) → sum f n = 0
  | 0, _ => rfl
  | n + 1, h => by rw [sum, sum_zero n (fun t ht => h t (by omega)), h n (by omega), fx_self]
theorem sum_xor (f g : Nat → UInt8) : ∀ n, sum (fun t => f t ^^^ g t) n = sum f n ^^^ sum g n
  | 0 => (fx_self 0).symm
  | n + 1 => by rw [sum, sum_xor f g n, xor4]; rfl
theorem sum_mul (c : UInt8) (f : Nat → UInt8) : ∀ n, sum (fun t => fm c (f t)) n = fm c (sum f n)
  | 0 => (fm_zero c).symm
  | n + 1 => by rw [sum, sum_mul c f n, sum, fm_xor]
theorem sum_mul' (c : UInt8) (f : Nat → UInt8) : ∀ n, sum (fun t => fm (f t) c) n = fm (sum f n) c
  | 0 => (zero_fm c).symm
  | n + 1 => by rw [sum, sum_mul' c f n, sum, xor_fm]
theorem sum_swap (f : Nat → Nat → UInt8) (m : Nat) : ∀ n, sum (fun i => sum (fun j => f i j) m) n = sum (fun j => sum (fun i => f i j) n) m
  | 0 => (sum_zero m (fun _ _ => rfl)).symm
  | n + 1 => by
    rw [sum, sum_swap f m n, ← sum_xor]; rfl
theorem sum_one {f : Nat → UInt8} {i : Nat} : ∀ n, i < n → (∀ t, t < n → t ≠ i → f t = 0) → sum f n = f i
  | 0, h, _ => by omega
  | n + 1, h, h0 => by
    rw [sum]
    by_cases hi : i = n
    · rw [sum_zero n (fun t ht => h0 t (by omega) (by omega)), zero_fx, hi]
    · rw [sum_one n (by omega) (fun t ht hne => h0 t (by omega) hne), h0 n (by omega) (fun e => hi e.symm), fx_zero]

/-- the identity -/
def one (i j : Nat) : UInt8 := if i = j then 1 else 0
theorem one_self (i : Nat) : one i i = 1 := if_pos rfl
theorem one_ne {i j : Nat} (h : i ≠ j) : one i j = 0 := if_neg h
/-- the product, over K of the middle -/
def mm (K : Nat) (a b : Nat → Nat → UInt8) (i j : Nat) : UInt8 := sum (fun t => fm (a i t) (b t j)) K
theorem mm_assoc (K C : Nat) (a b c : Nat → Nat → UInt8) (i j : Nat) : mm C (mm K a b) c i j = mm K a (mm C b c) i j := by
  unfold mm
  have e1 : (fun t => fm (sum (fun s => fm (a i s) (b s t)) K) (c t j)) = fun t => sum (fun s => fm (fm (a i s) (b s t)) (c t j)) K := by
    funext t; rw [sum_mul']
  have e2 : (fun s => fm (a i s) (sum (fun t => fm (b s t) (c t j)) C)) = fun s => sum (fun t => fm (a i s) (fm (b s t) (c t j))) C := by
    funext s; rw [sum_mul]
  rw [e1, e2, sum_swap]
  apply sum_congr
  intro s _
  apply sum_congr
  intro t _
  rw [fm_assoc]
theorem mm_congr {K : Nat} {a a' b b' : Nat → Nat → UInt8} {i j : Nat} (ha : ∀ t, t < K → a i t = a' i t) (hb : ∀ t, t < K → b t j = b' t j) : mm K a b i j = mm K a' b' i j :=
  sum_congr K (fun t ht => by rw [ha t ht, hb t ht])
theorem mm_one_left {n : Nat} (a : Nat → Nat → UInt8) {i : Nat} (j : Nat) (hi : i < n) : mm n one a i j = a i j := by
  unfold mm
  rw [sum_one (i := i) n hi (fun t _ hne => by rw [one_ne (fun e => hne e.symm), zero_fm]), one_self, one_fm]
theorem mm_one_right {n : Nat} (a : Nat → Nat → UInt8) (i : Nat) {j : Nat} (hj : j < n) : mm n a one i j = a i j := by
  unfold mm
  rw [sum_one (i := j) n hj (fun t _ hne => by rw [one_ne hne, fm_zero]), one_self, fm_one]
end Go.Proofs.YtjbedcgacnnanaaDoor.Lin

namespace Go.Proofs.YtjbedcgacnnanaaDoor.Lin
set_option linter.unusedVariables false
set_option linter.unusedSimpArgs false

/-- T works on the first n rows as a product from the left does -/
def RowOp (n : Nat) (T : (Nat → Nat → UInt8) → Nat → Nat → UInt8) : Prop := ∀ X i j, i < n → T X i j = mm n (T one) X i j
/-- two row operations that undo each other -/
structure Undo (n : Nat) (T T' : (Nat → Nat → UInt8) → Nat → Nat → UInt8) : Prop where
  op : RowOp n T
  op' : RowOp n T'
  left : ∀ X i j, i < n → T' (T X) i j = X i j
  right : ∀ X i j, i < n → T (T' X) i j = X i j
/-- what the steps keep: V and B undo each other, and B times M is W -/
structure Inv (n C : Nat) (M W B V : Nat → Nat → UInt8) : Prop where
  vb : ∀ i j, i < n → j < n → mm n V B i j = one i j
  bv : ∀ i j, i < n → j < n → mm n B V i j = one i j
  bm : ∀ i j, i < n → j < C → mm n B M i j = W i j
theorem Inv.start (n C : Nat) (M : Nat → Nat → UInt8) : Inv n C M M one one :=
  ⟨fun i j hi _ => mm_one_left _ _ hi, fun i j hi _ => mm_one_left _ _ hi, fun i j hi _ => mm_one_left _ _ hi⟩
theorem Inv.op {n C : Nat} {M W B V : Nat → Nat → UInt8} {T T' : (Nat → Nat → UInt8) → Nat → Nat → UInt8} (h : Inv n C M W B V) (u : Undo n T T') : Inv n C M (T W) (T B) (mm n V (T' one)) := by
  refine ⟨fun i j hi hj => ?_, fun i j hi hj => ?_, fun i j hi hj => ?_⟩
  · rw [mm_assoc]
    have e : ∀ t, t < n → mm n (T' one) (T B) t j = B t j := fun t ht => by rw [← u.op' (T B) t j ht, u.left B t j ht]
    rw [mm_congr (fun _ _ => rfl) e]
    exact h.vb i j hi hj
  · have e : ∀ t, t < n → T B i t = mm n (T one) B i t := fun t _ => u.op B i t hi
    rw [mm_congr e (fun _ _ => rfl), mm_assoc]
    have e2 : ∀ t, t < n → mm n B (mm n V (T' one)) t j = T' one t j := fun t ht => by
      rw [← mm_assoc, mm_congr (fun s hs => h.bv t s ht hs) (fun _ _ => rfl), mm_one_left _ _ ht]
    rw [mm_congr (fun _ _ => rfl) e2, ← u.op (T' one) i j hi, u.right one i j hi]
  · have e : ∀ t, t < n → T B i t = mm n (T one) B i t := fun t _ => u.op B i t hi
    rw [mm_congr e (fun _ _ => rfl), mm_assoc, mm_congr (fun _ _ => rfl) (fun t ht => h.bm t j ht hj), ← u.op W i j hi]

/-! the three operations -/
/-- swap the rows i and p -/
def swapF (i p : Nat) (X : Nat → Nat → UInt8) (r j : Nat) : UInt8 := if r = i then X p j else if r = p then X i j else X r j
/-- multiply the row i by c -/
def scaleF (i : Nat) (c : UInt8) (X : Nat → Nat → UInt8) (r j : Nat) : UInt8 := if r = i then fm c (X r j) else X r j
/-- add d r times the row i to each other row r -/
def clearF (i : Nat) (d : Nat → UInt8) (X : Nat → Nat → UInt8) (r j : Nat) : UInt8 := if r = i then X r j else X r j ^^^ fm (d r) (X i j)
theorem mm_left_xor (n : Nat) (a b c : Nat → Nat → UInt8) (i j : Nat) : mm n (fun r t => a r t ^^^ b r t) c i j = mm n a c i j ^^^ mm n b c i j := by
  unfold mm
  rw [← sum_xor]
  apply sum_congr
  intro t _
  rw [xor_fm]
theorem mm_row (n : Nat) {a b : Nat → Nat → UInt8} (c : Nat → Nat → UInt8) (i i' j : Nat) (h : ∀ t, t < n → a i t = b i' t) : mm n a c i j = mm n b c i' j := by
  unfold mm
  apply sum_congr
  intro t ht
  rw [h t ht]
theorem undo_swap {n i p : Nat} (hi : i < n) (hp : p < n) : Undo n (swapF i p) (swapF i p) := by
  have op : RowOp n (swapF i p) := by
    intro X r j hr
    unfold swapF
    by_cases h1 : r = i
    · rw [if_pos h1, mm_row n X r p j (b := one) (fun t _ => if_pos h1), mm_one_left _ _ hp]
    · by_cases h2 : r = p
      · rw [if_neg h1, if_pos h2, mm_row n X r i j (b := one) (fun t _ => by rw [if_neg h1, if_pos h2]), mm_one_left _ _ hi]
      · rw [if_neg h1, if_neg h2, mm_row n X r r j (b := one) (fun t _ => by rw [if_neg h1, if_neg h2]), mm_one_left _ _ hr]
  have two : ∀ X r j, r < n → swapF i p (swapF i p X) r j = X r j := by
    intro X r j _
    unfold swapF
    by_cases h1 : r = i
    · subst h1
      by_cases h2 : p = r
      · subst h2; simp
      · simp [h2]
    · by_cases h2 : r = p
      · subst h2; simp [h1]
      · simp [h1, h2]
  exact ⟨op, op, two, two⟩
theorem scale_op {n i : Nat} (c : UInt8) : RowOp n (scaleF i c) := by
  intro X r j hr
  unfold scaleF
  by_cases h1 : r = i
  · rw [if_pos h1]
    unfold mm
    rw [sum_congr n (fun t ht => show fm (if r = i then fm c (one r t) else one r t) (X t j) = fm c (fm (one r t) (X t j)) by rw [if_pos h1, fm_assoc]), sum_mul]
    congr 1
    exact (mm_one_left X j hr).symm
  · rw [if_neg h1, mm_row n X r r j (b := one) (fun t _ => if_neg h1), mm_one_left _ _ hr]
theorem undo_scale {n i : Nat} (c c' : UInt8) (h : fm c c' = 1) : Undo n (scaleF i c) (scaleF i c') := by
  have two : ∀ a b : UInt8, fm a b = 1 → ∀ X r j, r < n → scaleF i a (scaleF i b X) r j = X r j := by
    intro a b hab X r j _
    unfold scaleF
    by_cases h1 : r = i
    · rw [if_pos h1, if_pos h1, ← fm_assoc, hab, one_fm]
    · rw [if_neg h1, if_neg h1]
  exact ⟨scale_op c, scale_op c', two c' c (by rw [fm_comm, h]), two c c' h⟩
theorem undo_clear {n i : Nat} (hi : i < n) (d : Nat → UInt8) : Undo n (clearF i d) (clearF i d) := by
  have op : RowOp n (clearF i d) := by
    intro X r j hr
    unfold clearF
    by_cases h1 : r = i
    · rw [if_pos h1, mm_row n X r r j (b := one) (fun t _ => if_pos h1), mm_one_left _ _ hr]
    · rw [if_neg h1]
      have e : mm n (fun r' j' => if r' = i then one r' j' else one r' j' ^^^ fm (d r') (one i j')) X r j = mm n (fun r' t => one r' t ^^^ fm (d r') (one i t)) X r j :=
        mm_row n X r r j (fun t _ => if_neg h1)
      rw [e, mm_left_xor, mm_one_left _ _ hr]
      congr 1
      unfold mm
      rw [sum_congr n (fun t ht => show _ = fm (d r) (fm (one i t) (X t j)) by rw [fm_assoc]), sum_mul]
      congr 1
      exact (mm_one_left X j hi).symm
  have two : ∀ X r j, r < n → clearF i d (clearF i d X) r j = X r j := by
    intro X r j _
    unfold clearF
    by_cases h1 : r = i
    · rw [if_pos h1, if_pos h1]
    · rw [if_neg h1, if_neg h1, if_pos rfl, fx_assoc, fx_self, fx_zero]
  exact ⟨op, op, two, two⟩

/-! the first rows have columns of their own -/
/-- the first n rows have pivots: in the columns pc s there is nothing else; the other rows have nothing before col -/
structure Ech (R : Nat) (W : Nat → Nat → UInt8) (at_ col : Nat) (pc : Nat → Nat) : Prop where
  le : at_ ≤ R
  lt : ∀ s, s < at_ → pc s < col
  unit : ∀ s, s < at_ → ∀ k, k < R → W k (pc s) = one k s
  low : ∀ k, at_ ≤ k → k < R → ∀ t, t < col → W k t = 0
theorem Ech.start (R : Nat) (W : Nat → Nat → UInt8) : Ech R W 0 0 (fun s => s) := ⟨by omega, fun s h => by omega, fun s h => by omega, fun k _ _ t h => by omega⟩
/-- no row from at_ on has anything in the column -/
theorem Ech.skip {R at_ col : Nat} {W : Nat → Nat → UInt8} {pc : Nat → Nat} (h : Ech R W at_ col pc) (h0 : ∀ k, at_ ≤ k → k < R → W k col = 0) : Ech R W at_ (col + 1) pc :=
  ⟨h.le, fun s hs => by have := h.lt s hs; omega, h.unit, fun k h1 h2 t ht => by
    by_cases e : t = col
    · rw [e]; exact h0 k h1 h2
    · exact h.low k h1 h2 t (by omega)⟩
/-- the step at a row p that has something in the column -/
def stepW (at_ col p : Nat) (W X : Nat → Nat → UInt8) : Nat → Nat → UInt8 :=
  clearF at_ (fun k => scaleF at_ (fi (swapF at_ p W at_ col)) (swapF at_ p W) k col) (scaleF at_ (fi (swapF at_ p W at_ col)) (swapF at_ p X))
theorem Ech.step {R at_ col p : Nat} {W : Nat → Nat → UInt8} {pc : Nat → Nat} (h : Ech R W at_ col pc) (hp : at_ ≤ p) (hpR : p < R) (hne : W p col ≠ 0) :
    Ech R (stepW at_ col p W W) (at_ + 1) (col + 1) (fun s => if s = at_ then col else pc s) := by
  have hsw : swapF at_ p W at_ col = W p col := if_pos rfl
  have hc : fm (fi (W p col)) (W p col) = 1 := fi_fm _ hne
  have haR : at_ < R := by omega
  have sw : ∀ k t, k < R → at_ ≤ k → t < col → swapF at_ p W k t = 0 := by
    intro k t hk hk2 ht
    unfold swapF
    split
    · exact h.low p hp hpR t ht
    · split
      · exact h.low at_ (Nat.le_refl _) haR t ht
      · exact h.low k hk2 hk t ht
  have sc : ∀ k t, k < R → at_ ≤ k → t < col → scaleF at_ (fi (swapF at_ p W at_ col)) (swapF at_ p W) k t = 0 := by
    intro k t hk hk2 ht
    unfold scaleF
    rw [sw k t hk hk2 ht, fm_zero]
    split <;> rfl
  have scA : scaleF at_ (fi (swapF at_ p W at_ col)) (swapF at_ p W) at_ col = 1 := by
    unfold scaleF
    rw [if_pos rfl, hsw, hc]
  refine ⟨by omega, fun s hs => ?_, fun s hs k hk => ?_, fun k h1 h2 t ht => ?_⟩
  · show (if s = at_ then col else pc s) < col + 1
    split
    · omega
    · have := h.lt s (by omega); omega
  · show stepW at_ col p W W k (if s = at_ then col else pc s) = one k s
    unfold stepW
    by_cases hs1 : s = at_
    · rw [if_pos hs1]
      unfold clearF
      by_cases hk1 : k = at_
      · rw [if_pos hk1, hk1, scA, hs1, one_self]
      · rw [if_neg hk1, scA, fm_one, fx_self, hs1, one_ne hk1]
    · rw [if_neg hs1]
      have hps := h.lt s (by omega)
      unfold clearF
      have hz : scaleF at_ (fi (swapF at_ p W at_ col)) (swapF at_ p W) at_ (pc s) = 0 := sc at_ (pc s) haR (Nat.le_refl _) hps
      by_cases hk1 : k = at_
      · rw [if_pos hk1, hk1, hz, one_ne (fun e => hs1 e.symm)]
      · rw [if_neg hk1, hz, fm_zero, fx_zero]
        unfold scaleF
        rw [if_neg hk1]
        unfold swapF
        rw [if_neg hk1]
        by_cases hk2 : k = p
        · rw [if_pos hk2, h.unit s (by omega) at_ haR, one_ne (fun e => hs1 e.symm), one_ne (by omega)]
        · rw [if_neg hk2, h.unit s (by omega) k hk]
  · show stepW at_ col p W W k t = 0
    unfold stepW clearF
    rw [if_neg (by omega)]
    by_cases ht1 : t = col
    · rw [ht1, scA, fm_one, fx_self]
    · rw [sc at_ t haR (Nat.le_refl _) (by omega), fm_zero, fx_zero, sc k t h2 (by omega) (by omega)]
theorem Inv.step {R C at_ col p : Nat} {M W B V : Nat → Nat → UInt8} (h : Inv R C M W B V) (ha : at_ < R) (hp : p < R) (hne : W p col ≠ 0) :
    ∃ V', Inv R C M (stepW at_ col p W W) (stepW at_ col p W B) V' := by
  have hsw : swapF at_ p W at_ col = W p col := if_pos rfl
  have h1 := h.op (undo_swap ha hp)
  have h2 := h1.op (undo_scale (n := R) (i := at_) (fi (swapF at_ p W at_ col)) (W p col) (by rw [hsw]; exact fi_fm _ hne))
  have h3 := h2.op (undo_clear ha (fun k => scaleF at_ (fi (swapF at_ p W at_ col)) (swapF at_ p W) k col))
  exact ⟨_, h3⟩
end Go.Proofs.YtjbedcgacnnanaaDoor.Lin

namespace Go.Proofs.YtjbedcgacnnanaaDoor.Lin
set_option linter.unusedVariables false
set_option linter.unusedSimpArgs false

/-! the first row that has something in the column -/
def pivGo (f : Nat → UInt8) : Nat → Nat → Nat
  | 0, i => i
  | k + 1, i => if f i = 0 then pivGo f k (i + 1) else i
def pivot (f : Nat → UInt8) (R at_ : Nat) : Nat := pivGo f (R - at_) at_
theorem pivGo_spec (f : Nat → UInt8) : ∀ k i, i ≤ pivGo f k i ∧ pivGo f k i ≤ i + k ∧ (∀ t, i ≤ t → t < pivGo f k i → f t = 0) ∧ (pivGo f k i < i + k → f (pivGo f k i) ≠ 0)
  | 0, i => ⟨Nat.le_refl _, Nat.le_refl _, fun t h1 h2 => absurd h2 (by simp [pivGo]; omega), fun h => absurd h (by simp [pivGo])⟩
  | k + 1, i => by
    unfold pivGo
    by_cases h : f i = 0
    · rw [if_pos h]
      obtain ⟨h1, h2, h3, h4⟩ := pivGo_spec f k (i + 1)
      refine ⟨by omega, by omega, fun t ht1 ht2 => ?_, fun hlt => h4 (by omega)⟩
      by_cases e : t = i
      · rw [e]; exact h
      · exact h3 t (by omega) ht2
    · rw [if_neg h]
      exact ⟨Nat.le_refl _, by omega, fun t h1 h2 => by omega, fun _ => h⟩
theorem pivot_spec (f : Nat → UInt8) {R at_ : Nat} (h : at_ ≤ R) : at_ ≤ pivot f R at_ ∧ pivot f R at_ ≤ R ∧ (∀ t, at_ ≤ t → t < pivot f R at_ → f t = 0) ∧ (pivot f R at_ < R → f (pivot f R at_) ≠ 0) := by
  obtain ⟨h1, h2, h3, h4⟩ := pivGo_spec f (R - at_) at_
  exact ⟨h1, by unfold pivot; omega, h3, fun hlt => h4 (by unfold pivot at hlt; omega)⟩
theorem pivot_unique (f : Nat → UInt8) {R at_ i : Nat} (h : at_ ≤ R) (h1 : at_ ≤ i) (h2 : i ≤ R) (h3 : ∀ t, at_ ≤ t → t < i → f t = 0) (h4 : i < R → f i ≠ 0) : i = pivot f R at_ := by
  obtain ⟨g1, g2, g3, g4⟩ := pivot_spec f h
  rcases Nat.lt_trichotomy i (pivot f R at_) with hl | hl | hl
  · exact absurd (g3 i h1 hl) (h4 (by omega))
  · exact hl
  · exact absurd (h3 _ g1 hl) (g4 (by omega))
theorem pivot_congr {f g : Nat → UInt8} {R at_ : Nat} (h : at_ ≤ R) (e : ∀ t, at_ ≤ t → t < R → f t = g t) : pivot f R at_ = pivot g R at_ := by
  obtain ⟨g1, g2, g3, g4⟩ := pivot_spec f h
  exact pivot_unique g h g1 g2 (fun t h1 h2 => by rw [← e t h1 (by omega)]; exact g3 t h1 h2) (fun hl => by rw [← e _ g1 hl]; exact g4 hl)

/-- the inverse by steps: none, where a column has nothing left -/
def gaussGo (n : Nat) : Nat → Nat → (Nat → Nat → UInt8) → (Nat → Nat → UInt8) → Option (Nat → Nat → UInt8)
  | 0, _, _, B => some B
  | k + 1, i, W, B =>
    if pivot (fun t => W t i) n i < n then gaussGo n k (i + 1) (stepW i i (pivot (fun t => W t i) n i) W W) (stepW i i (pivot (fun t => W t i) n i) W B) else none
theorem Ech.congr {R at_ col : Nat} {W : Nat → Nat → UInt8} {pc pc' : Nat → Nat} (h : Ech R W at_ col pc) (e : ∀ s, s < at_ → pc s = pc' s) : Ech R W at_ col pc' :=
  ⟨h.le, fun s hs => by rw [← e s hs]; exact h.lt s hs, fun s hs => by rw [← e s hs]; exact h.unit s hs, h.low⟩
theorem gauss_some {n : Nat} {M : Nat → Nat → UInt8} : ∀ k i W B V R, i + k = n → Inv n n M W B V → Ech n W i i (fun s => s) → gaussGo n k i W B = some R →
    (∀ i j, i < n → j < n → mm n R M i j = one i j) ∧ (∀ i j, i < n → j < n → mm n M R i j = one i j)
  | 0, i, W, B, V, R, hk, hI, hE, h => by
    have hR : B = R := by simpa [gaussGo] using h
    subst hR
    have hW : ∀ k j, k < n → j < n → W k j = one k j := fun k j hk' hj => hE.unit j (by omega) k hk'
    have h1 : ∀ i j, i < n → j < n → mm n B M i j = one i j := fun a b ha hb => by rw [hI.bm a b ha hb, hW a b ha hb]
    refine ⟨h1, fun a b ha hb => ?_⟩
    have hMV : ∀ s t, s < n → t < n → M s t = V s t := fun s t hs ht => by
      have e : mm n V (mm n B M) s t = M s t := by
        rw [← mm_assoc, mm_congr (fun u hu => hI.vb s u hs hu) (fun _ _ => rfl), mm_one_left _ _ hs]
      rw [← e, mm_congr (fun _ _ => rfl) (fun u hu => h1 u t hu ht), mm_one_right _ _ ht]
    rw [mm_congr (fun t ht => hMV a t ha ht) (fun _ _ => rfl)]
    exact hI.vb a b ha hb
  | k + 1, i, W, B, V, R, hk, hI, hE, h => by
    unfold gaussGo at h
    by_cases hp : pivot (fun t => W t i) n i < n
    · rw [if_pos hp] at h
      obtain ⟨g1, g2, g3, g4⟩ := pivot_spec (fun t => W t i) (show i ≤ n by omega)
      obtain ⟨V', hI'⟩ := hI.step (at_ := i) (col := i) (by omega) hp (g4 hp)
      have hE' := (hE.step g1 hp (g4 hp)).congr (pc' := fun s => s) (fun s _ => by
        show (if s = i then i else s) = s
        split
        · omega
        · rfl)
      exact gauss_some k (i + 1) _ _ V' R (by omega) hI' hE' h
    · rw [if_neg hp] at h; cases h
theorem gauss_none {n : Nat} {M : Nat → Nat → UInt8} : ∀ k i W B V, i + k = n → Inv n n M W B V → Ech n W i i (fun s => s) → gaussGo n k i W B = none →
    ∃ v : Nat → UInt8, (∃ t, t < n ∧ v t ≠ 0) ∧ ∀ s, s < n → sum (fun t => fm (M s t) (v t)) n = 0
  | 0, i, W, B, V, hk, hI, hE, h => by simp [gaussGo] at h
  | k + 1, i, W, B, V, hk, hI, hE, h => by
    unfold gaussGo at h
    obtain ⟨g1, g2, g3, g4⟩ := pivot_spec (fun t => W t i) (show i ≤ n by omega)
    by_cases hp : pivot (fun t => W t i) n i < n
    · rw [if_pos hp] at h
      obtain ⟨V', hI'⟩ := hI.step (at_ := i) (col := i) (by omega) hp (g4 hp)
      have hE' := (hE.step g1 hp (g4 hp)).congr (pc' := fun s => s) (fun s _ => by
        show (if s = i then i else s) = s
        split
        · omega
        · rfl)
      exact gauss_none k (i + 1) _ _ V' (by omega) hI' hE' h
    · have hz : ∀ t, i ≤ t → t < n → W t i = 0 := fun t h1 h2 => g3 t h1 (by omega)
      -- the vector: in the columns before i what the column i has; 1 at i
      refine ⟨fun t => if t < i then W t i else if t = i then 1 else 0, ⟨i, by omega, by simp⟩, fun s hs => ?_⟩
      have hWv : ∀ r, r < n → mm n W (fun t _ => if t < i then W t i else if t = i then 1 else 0) r 0 = 0 := by
        intro r hr
        unfold mm
        have hsplit : ∀ t, t < n → fm (W r t) (if t < i then W t i else if t = i then 1 else 0) = (if t = r ∧ t < i then W r i else 0) ^^^ (if t = i then W r i else 0) := by
          intro t ht
          by_cases h1 : t < i
          · rw [if_pos h1, hE.unit t h1 r hr, if_neg (show ¬ t = i by omega), fx_zero]
            by_cases h2 : t = r
            · rw [h2, one_self, one_fm, if_pos ⟨rfl, by omega⟩]
            · rw [one_ne (fun e => h2 e.symm), zero_fm, if_neg (fun e => h2 e.1)]
          · rw [if_neg h1, if_neg (show ¬ (t = r ∧ t < i) by omega), zero_fx]
            by_cases h2 : t = i
            · rw [if_pos h2, if_pos h2, fm_one, h2]
            · rw [if_neg h2, if_neg h2, fm_zero]
        rw [sum_congr n hsplit, sum_xor]
        have e2 : sum (fun t => if t = i then W r i else 0) n = W r i := by
          rw [sum_one (i := i) n (by omega) (fun t _ hne => if_neg hne), if_pos rfl]
        rw [e2]
        by_cases hri : r < i
        · rw [sum_one (i := r) n hr (fun t _ hne => if_neg (fun e => hne e.1)), if_pos ⟨rfl, hri⟩, fx_self]
        · rw [sum_zero n (fun t _ => if_neg (by omega)), hz r (by omega) hr, fx_self]
      have hMB : mm n M (fun t _ => if t < i then W t i else if t = i then 1 else 0) s 0 = 0 := by
        have e1 : mm n V (mm n W (fun t _ => if t < i then W t i else if t = i then 1 else 0)) s 0 = mm n M (fun t _ => if t < i then W t i else if t = i then 1 else 0) s 0 := by
          rw [← mm_assoc]
          refine mm_congr (fun t ht => ?_) (fun _ _ => rfl)
          have e3 : mm n V W s t = mm n V (mm n B M) s t := mm_congr (fun _ _ => rfl) (fun u hu => (hI.bm u t hu ht).symm)
          rw [e3, ← mm_assoc, mm_congr (fun u hu => hI.vb s u hs hu) (fun _ _ => rfl), mm_one_left _ _ hs]
        rw [← e1]
        unfold mm at hWv ⊢
        exact sum_zero n (fun t ht => by rw [hWv t ht, fm_zero])
      exact hMB
/-- the inverse's cells -/
def inverse (n : Nat) (M : Nat → Nat → UInt8) : Option (Nat → Nat → UInt8) := gaussGo n n 0 M one
theorem inverse_some {n : Nat} {M R : Nat → Nat → UInt8} (h : inverse n M = some R) : (∀ i j, i < n → j < n → mm n R M i j = one i j) ∧ (∀ i j, i < n → j < n → mm n M R i j = one i j) :=
  gauss_some n 0 M one one R (by omega) (Inv.start n n M) (Ech.start n M) h
theorem inverse_none {n : Nat} {M : Nat → Nat → UInt8} (h : inverse n M = none) : ∃ v : Nat → UInt8, (∃ t, t < n ∧ v t ≠ 0) ∧ ∀ s, s < n → sum (fun t => fm (M s t) (v t)) n = 0 :=
  gauss_none n 0 M one one (by omega) (Inv.start n n M) (Ech.start n M) h
/-- a matrix that has an inverse from the left has one by steps -/
theorem inverse_of_left {n : Nat} {M N : Nat → Nat → UInt8} (h : ∀ i j, i < n → j < n → mm n N M i j = one i j) : ∃ R, inverse n M = some R := by
  cases hi : inverse n M with
  | some R => exact ⟨R, rfl⟩
  | none =>
    obtain ⟨v, ⟨t, ht, hv⟩, h0⟩ := inverse_none hi
    exfalso
    apply hv
    have e : mm n (mm n N M) (fun t _ => v t) t 0 = v t := by
      rw [mm_congr (fun u hu => h t u ht hu) (fun _ _ => rfl)]
      exact mm_one_left (fun t _ => v t) 0 ht
    rw [← e, mm_assoc]
    unfold mm
    exact sum_zero n (fun u hu => by rw [h0 u hu, fm_zero])
/-- inverses are unique -/
theorem inverse_unique {n : Nat} {M A B : Nat → Nat → UInt8} (h1 : ∀ i j, i < n → j < n → mm n A M i j = one i j) (h2 : ∀ i j, i < n → j < n → mm n M B i j = one i j) : ∀ i j, i < n → j < n → A i j = B i j := by
  intro i j hi hj
  have e1 : mm n (mm n A M) B i j = B i j := by rw [mm_congr (fun u hu => h1 i u hi hu) (fun _ _ => rfl), mm_one_left _ _ hi]
  have e2 : mm n A (mm n M B) i j = A i j := by rw [mm_congr (fun _ _ => rfl) (fun u hu => h2 u j hu hj), mm_one_right _ _ hj]
  rw [← e2, ← mm_assoc, e1]
/-- a row that makes nothing of a matrix with an inverse is nothing -/
theorem flat_zero {n : Nat} {M R : Nat → Nat → UInt8} (h : inverse n M = some R) (v : Nat → UInt8) (h0 : ∀ j, j < n → sum (fun t => fm (v t) (M t j)) n = 0) : ∀ j, j < n → v j = 0 := by
  intro j hj
  have hr := (inverse_some h).2
  have e1 : mm n (mm n (fun _ t => v t) M) R 0 j = 0 := by
    unfold mm
    refine sum_zero n (fun t ht => ?_)
    rw [show sum (fun s => fm (v s) (M s t)) n = 0 from h0 t ht, zero_fm]
  rw [mm_assoc, mm_congr (fun _ _ => rfl) (fun t ht => hr t j ht hj), mm_one_right _ _ hj] at e1
  exact e1

/-! ranks -/
/-- the rank by steps, on the way -/
def rankGo (R : Nat) : Nat → Nat → Nat → (Nat → Nat → UInt8) → Nat
  | 0, at_, _, _ => at_
  | k + 1, at_, col, W =>
    if at_ < R then
      if pivot (fun t => W t col) R at_ < R then rankGo R k (at_ + 1) (col + 1) (stepW at_ col (pivot (fun t => W t col) R at_) W W) else rankGo R k at_ (col + 1) W
    else at_
def rank (R C : Nat) (M : Nat → Nat → UInt8) : Nat := rankGo R C 0 0 M
theorem rankGo_le (R : Nat) : ∀ k at_ col W, rankGo R k at_ col W ≤ at_ + k
  | 0, at_, col, W => Nat.le_refl _
  | k + 1, at_, col, W => by
    unfold rankGo
    split
    · split
      · have := rankGo_le R k (at_ + 1) (col + 1) (stepW at_ col (pivot (fun t => W t col) R at_) W W); omega
      · have := rankGo_le R k at_ (col + 1) W; omega
    · omega
theorem rank_gauss (n : Nat) : ∀ k i W B, i + k = n → ((gaussGo n k i W B).isSome = true ↔ rankGo n k i i W = n)
  | 0, i, W, B, h => by simp [gaussGo, rankGo]; omega
  | k + 1, i, W, B, h => by
    unfold gaussGo rankGo
    rw [if_pos (show i < n by omega)]
    by_cases hp : pivot (fun t => W t i) n i < n
    · rw [if_pos hp, if_pos hp]
      exact rank_gauss n k (i + 1) _ _ (by omega)
    · rw [if_neg hp, if_neg hp]
      have := rankGo_le n k i (i + 1) W
      simp; omega
theorem rank_inverse (n : Nat) (M : Nat → Nat → UInt8) : (inverse n M).isSome = true ↔ rank n n M = n := rank_gauss n n 0 M one (by omega)
/-- what a rank says: rows of their own make all others -/
structure Ranked (R C : Nat) (M : Nat → Nat → UInt8) (ρ : Nat) : Prop where
  ex : ∃ W B V pc col, Inv R C M W B V ∧ Ech R W ρ col pc ∧ (∀ s, s < ρ → pc s < C) ∧ (∀ k, ρ ≤ k → k < R → ∀ t, t < C → W k t = 0)
theorem rankGo_ranked {R C : Nat} {M : Nat → Nat → UInt8} : ∀ k at_ col W B V pc, col + k = C → Inv R C M W B V → Ech R W at_ col pc → Ranked R C M (rankGo R k at_ col W)
  | 0, at_, col, W, B, V, pc, hk, hI, hE => ⟨W, B, V, pc, col, hI, hE, fun s hs => by have := hE.lt s hs; omega, fun k h1 h2 t ht => hE.low k h1 h2 t (by omega)⟩
  | k + 1, at_, col, W, B, V, pc, hk, hI, hE => by
    unfold rankGo
    by_cases ha : at_ < R
    · rw [if_pos ha]
      obtain ⟨g1, g2, g3, g4⟩ := pivot_spec (fun t => W t col) hE.le
      by_cases hp : pivot (fun t => W t col) R at_ < R
      · rw [if_pos hp]
        obtain ⟨V', hI'⟩ := hI.step (at_ := at_) (col := col) ha hp (g4 hp)
        exact rankGo_ranked k (at_ + 1) (col + 1) _ _ V' _ (by omega) hI' (hE.step g1 hp (g4 hp))
      · rw [if_neg hp]
        exact rankGo_ranked k at_ (col + 1) W B V pc (by omega) hI (hE.skip (fun t h1 h2 => g3 t h1 (by omega)))
    · rw [if_neg ha]
      exact ⟨W, B, V, pc, col, hI, hE, fun s hs => by have := hE.lt s hs; omega, fun k h1 h2 t ht => by omega⟩
theorem rank_ranked (R C : Nat) (M : Nat → Nat → UInt8) : Ranked R C M (rank R C M) := rankGo_ranked C 0 0 M one one _ (by omega) (Inv.start R C M) (Ech.start R M)
/-- more rows than columns: some sum of rows is nothing -/
theorem null_rows : ∀ (q p : Nat) (A : Nat → Nat → UInt8), q < p → ∃ x : Nat → UInt8, (∃ i, i < p ∧ x i ≠ 0) ∧ ∀ j, j < q → sum (fun i => fm (x i) (A i j)) p = 0
  | 0, p, A, h => ⟨fun i => if i = 0 then 1 else 0, ⟨0, h, by simp⟩, fun j hj => by omega⟩
  | q + 1, 0, A, h => by omega
  | q + 1, p + 1, A, h => by
    by_cases hall : ∀ i, i < p + 1 → A i q = 0
    · obtain ⟨x, hx, h0⟩ := null_rows q (p + 1) A (by omega)
      refine ⟨x, hx, fun j hj => ?_⟩
      by_cases e : j = q
      · rw [e]; exact sum_zero _ (fun i hi => by rw [hall i hi, fm_zero])
      · exact h0 j (by omega)
    · have hex : ∃ i, i < p + 1 ∧ A i q ≠ 0 := by
        apply Classical.byContradiction
        intro hno
        exact hall (fun i hi => Classical.byContradiction fun hne => hno ⟨i, hi, hne⟩)
      obtain ⟨i0, hi0, hne⟩ := hex
      -- the row i0 stands last
      obtain ⟨S, hS⟩ : ∃ S : Nat → Nat, S = fun i => if i = i0 then p else if i = p then i0 else i := ⟨_, rfl⟩
      have hSp : S p = i0 := by
        rw [hS]
        show (if p = i0 then p else if p = p then i0 else p) = i0
        split
        · assumption
        · simp
      obtain ⟨x, ⟨i, hi, hxi⟩, h0⟩ := null_rows q p (fun i j => A (S i) j ^^^ fm (fm (A (S i) q) (fi (A i0 q))) (A i0 j)) (by omega)
      obtain ⟨y, hy⟩ : ∃ y : Nat → UInt8, y = fun i => if i < p then x i else fm (sum (fun i => fm (x i) (A (S i) q)) p) (fi (A i0 q)) := ⟨_, rfl⟩
      have hyl : ∀ i, i < p → y i = x i := fun i hi => by rw [hy]; exact if_pos hi
      have hyp : y p = fm (sum (fun i => fm (x i) (A (S i) q)) p) (fi (A i0 q)) := by rw [hy]; exact if_neg (by omega)
      -- over the rows as S lays them
      have key : ∀ j, j < q + 1 → sum (fun i => fm (y i) (A (S i) j)) (p + 1) = 0 := by
        intro j hj
        show sum (fun i => fm (y i) (A (S i) j)) p ^^^ fm (y p) (A (S p) j) = 0
        rw [sum_congr p (fun t ht => show _ = fm (x t) (A (S t) j) by rw [hyl t ht]), hyp, hSp]
        by_cases e : j = q
        · rw [e, fm_assoc, fi_fm _ hne, fm_one, fx_self]
        · have h1 := h0 j (by omega)
          have h2 : sum (fun i => fm (x i) (A (S i) j ^^^ fm (fm (A (S i) q) (fi (A i0 q))) (A i0 j))) p = sum (fun i => fm (x i) (A (S i) j)) p ^^^ fm (fm (sum (fun i => fm (x i) (A (S i) q)) p) (fi (A i0 q))) (A i0 j) := by
            rw [sum_congr p (fun t _ => show _ = fm (x t) (A (S t) j) ^^^ fm (fm (x t) (A (S t) q)) (fm (fi (A i0 q)) (A i0 j)) by
              rw [fm_xor, fm_assoc, fm_assoc]), sum_xor, sum_mul', fm_assoc]
          rw [h2] at h1
          exact h1
      -- and back
      have hSS : ∀ i, S (S i) = i := by
        intro i
        rw [hS]
        show (if (if i = i0 then p else if i = p then i0 else i) = i0 then p else if (if i = i0 then p else if i = p then i0 else i) = p then i0 else (if i = i0 then p else if i = p then i0 else i)) = i
        by_cases e1 : i = i0
        · rw [if_pos e1]
          by_cases e2 : p = i0
          · rw [if_pos e2]; omega
          · rw [if_neg e2, if_pos rfl]; exact e1.symm
        · rw [if_neg e1]
          by_cases e2 : i = p
          · rw [if_pos e2, if_pos rfl]; exact e2.symm
          · rw [if_neg e2, if_neg e1, if_neg e2]
      have hSl : ∀ i, i < p + 1 → S i < p + 1 := by
        intro i hi
        rw [hS]
        show (if i = i0 then p else if i = p then i0 else i) < p + 1
        split
        · omega
        · split <;> omega
      have perm : ∀ f : Nat → UInt8, sum (fun i => f (S i)) (p + 1) = sum f (p + 1) := by
        intro f
        have e1 : sum (fun i => f (S i)) (p + 1) = sum (fun i => sum (fun t => fm (one (S i) t) (f t)) (p + 1)) (p + 1) :=
          sum_congr _ (fun i hi => by rw [sum_one (i := S i) (p + 1) (hSl i hi) (fun t _ hne => by rw [one_ne (fun e => hne e.symm), zero_fm]), one_self, one_fm])
        rw [e1, sum_swap]
        apply sum_congr
        intro t ht
        rw [sum_mul']
        have e2 : sum (fun i => one (S i) t) (p + 1) = 1 := by
          rw [sum_one (i := S t) (p + 1) (hSl t ht) (fun i _ hne => one_ne (fun e => hne (by rw [← e, hSS]))), hSS, one_self]
        rw [e2, one_fm]
      refine ⟨fun i => y (S i), ⟨S i, hSl i (by omega), by show y (S (S i)) ≠ 0; rw [hSS, hyl i hi]; exact hxi⟩, fun j hj => ?_⟩
      have h3 := perm (fun i => fm (y (S i)) (A i j))
      rw [← h3, ← key j hj]
      apply sum_congr
      intro i _
      show fm (y (S (S i))) (A (S i) j) = _
      rw [hSS]
/-- rows of their own, made of others: there are no more of them than of these -/
theorem rows_le {p q C : Nat} {X A Y : Nat → Nat → UInt8} (h : ∀ i j, i < p → j < C → X i j = mm q A Y i j) (hX : ∀ x : Nat → UInt8, (∀ j, j < C → sum (fun i => fm (x i) (X i j)) p = 0) → ∀ i, i < p → x i = 0) : p ≤ q := by
  rcases Nat.lt_or_ge q p with hlt | hge
  · exfalso
    obtain ⟨x, ⟨i, hi, hx⟩, h0⟩ := null_rows q p A hlt
    refine hx (hX x (fun j hj => ?_) i hi)
    have e : sum (fun i => fm (x i) (X i j)) p = mm p (fun _ t => x t) (mm q A Y) 0 j := sum_congr p (fun t ht => by rw [h t j ht hj])
    rw [e, ← mm_assoc]
    unfold mm
    exact sum_zero q (fun t ht => by rw [h0 t ht, zero_fm])
  · exact hge
/-- any rows of their own that make M's rows and are made of them are as many as the rank -/
theorem ranked_eq {R C m ρ : Nat} {M T A D : Nat → Nat → UInt8} (hr : Ranked R C M ρ) (hT : ∀ x : Nat → UInt8, (∀ j, j < C → sum (fun i => fm (x i) (T i j)) m = 0) → ∀ i, i < m → x i = 0)
    (hA : ∀ i j, i < m → j < C → T i j = mm R A M i j) (hD : ∀ i j, i < R → j < C → M i j = mm m D T i j) : m = ρ := by
  obtain ⟨W, B, V, pc, col, hI, hE, hpc, hlow⟩ := hr.ex
  have hMW : ∀ i j, i < R → j < C → M i j = mm R V W i j := fun i j hi hj => by
    have e : mm R V W i j = mm R V (mm R B M) i j := mm_congr (fun _ _ => rfl) (fun u hu => (hI.bm u j hu hj).symm)
    rw [e, ← mm_assoc, mm_congr (fun u hu => hI.vb i u hi hu) (fun _ _ => rfl), mm_one_left _ _ hi]
  have hcut : ∀ (a : Nat → Nat → UInt8) i j, j < C → mm R a W i j = mm ρ a W i j := by
    intro a i j hj
    have hle := hE.le
    unfold mm
    obtain ⟨d, hd⟩ : ∃ d, R = ρ + d := ⟨R - ρ, by omega⟩
    have : ∀ d, ρ + d ≤ R → sum (fun t => fm (a i t) (W t j)) (ρ + d) = sum (fun t => fm (a i t) (W t j)) ρ := by
      intro d
      induction d with
      | zero => intro _; rfl
      | succ d ih =>
        intro hd
        show sum _ (ρ + d) ^^^ fm (a i (ρ + d)) (W (ρ + d) j) = _
        rw [ih (by omega), hlow (ρ + d) (by omega) (by omega) j hj, fm_zero, fx_zero]
    rw [hd]
    exact this d (by omega)
  apply Nat.le_antisymm
  · refine rows_le (X := T) (A := mm R A V) (Y := W) (C := C) (fun i j hi hj => ?_) hT
    rw [hA i j hi hj, mm_congr (fun _ _ => rfl) (fun t ht => hMW t j ht hj), ← mm_assoc, hcut _ i j hj]
  · refine rows_le (X := W) (A := mm R B D) (Y := T) (C := C) (fun i j hi hj => ?_) (fun x hx i hi => ?_)
    · have hiR : i < R := Nat.lt_of_lt_of_le hi hE.le
      rw [← hI.bm i j hiR hj, mm_congr (fun _ _ => rfl) (fun t ht => hD t j ht hj), ← mm_assoc]
    · have h1 := hx (pc i) (hpc i hi)
      rw [sum_one (i := i) ρ hi (fun t ht hne => by rw [hE.unit i hi t (Nat.lt_of_lt_of_le ht hE.le), one_ne hne, fm_zero]), hE.unit i hi i (Nat.lt_of_lt_of_le hi hE.le), one_self, fm_one] at h1
      exact h1
end Go.Proofs.YtjbedcgacnnanaaDoor.Lin

namespace Go.Proofs.YtjbedcgacnnanaaDoor.Lin
set_option linter.unusedVariables false
set_option linter.unusedSimpArgs false

def lsum (f : Nat → UInt8) : List Nat → UInt8
  | [] => 0
  | x :: r => f x ^^^ lsum f r
theorem lsum_congr {f g : Nat → UInt8} : ∀ l : List Nat, (∀ x ∈ l, f x = g x) → lsum f l = lsum g l
  | [], _ => rfl
  | x :: r, h => by rw [lsum, lsum, h x (List.mem_cons_self ..), lsum_congr r (fun y hy => h y (List.mem_cons_of_mem _ hy))]
theorem lsum_xor (f g : Nat → UInt8) : ∀ l, lsum (fun t => f t ^^^ g t) l = lsum f l ^^^ lsum g l
  | [] => (fx_self 0).symm
  | x :: r => by rw [lsum, lsum_xor f g r, xor4]; rfl
theorem lsum_mul (c : UInt8) (f : Nat → UInt8) : ∀ l, lsum (fun t => fm c (f t)) l = fm c (lsum f l)
  | [] => (fm_zero c).symm
  | x :: r => by rw [lsum, lsum_mul c f r, lsum, fm_xor]
theorem lsum_append (f : Nat → UInt8) : ∀ l m, lsum f (l ++ m) = lsum f l ^^^ lsum f m
  | [], m => by rw [List.nil_append]; exact (zero_fx _).symm
  | x :: r, m => by rw [List.cons_append, lsum, lsum_append f r m, lsum, fx_assoc]
theorem lsum_range (f : Nat → UInt8) : ∀ n, lsum f (List.range n) = sum f n
  | 0 => rfl
  | n + 1 => by rw [List.range_succ, lsum_append, lsum_range f n]; show _ ^^^ (f n ^^^ 0) = _; rw [fx_zero]; rfl
theorem lsum_filter (f : Nat → UInt8) (p : Nat → Bool) : ∀ l, (∀ x ∈ l, p x = false → f x = 0) → lsum f (l.filter p) = lsum f l
  | [], _ => rfl
  | x :: r, h => by
    have ih := lsum_filter f p r (fun y hy => h y (List.mem_cons_of_mem _ hy))
    cases hp : p x
    · rw [List.filter_cons_of_neg (by simp [hp]), ih, lsum, h x (List.mem_cons_self ..) hp, zero_fx]
    · rw [List.filter_cons_of_pos hp, lsum, lsum, ih]
theorem fx_ne {a b : UInt8} (h : a ≠ b) : a ^^^ b ≠ 0 := fun e => h (fx_cancel a b e)
theorem fi_ne {a : UInt8} (h : a ≠ 0) : fi a ≠ 0 := fun e => by
  have h1 := fm_fi a h
  rw [e, fm_zero] at h1
  exact absurd h1 (by decide)
theorem fm_ne {a b : UInt8} (h : fm a b = 0) (hb : b ≠ 0) : a = 0 := (fm_eq_zero a b h).resolve_right hb
theorem fi_add {p q : UInt8} (hp : p ≠ 0) (hq : q ≠ 0) : fi p ^^^ fi q = fm (fm (p ^^^ q) (fi p)) (fi q) := by
  have h1 : fm (fm p (fi p)) (fi q) = fi q := by rw [fm_fi p hp, one_fm]
  have h2 : fm (fm q (fi p)) (fi q) = fi p := by rw [fm_comm q, fm_assoc, fm_fi q hq, fm_one]
  rw [xor_fm, xor_fm, h1, h2, fx_comm]

/-- Cauchy: nothing but nothing is sent to nothing -/
theorem cauchy (a b : Nat → UInt8) : ∀ (xs ys : List Nat) (v : Nat → UInt8), xs.length = ys.length → xs.Pairwise (fun x x' => a x ≠ a x') → ys.Pairwise (fun y y' => b y ≠ b y') → (∀ x ∈ xs, ∀ y ∈ ys, a x ≠ b y) →
    (∀ x ∈ xs, lsum (fun y => fm (v y) (fi (a x ^^^ b y))) ys = 0) → ∀ y ∈ ys, v y = 0
  | _, [], _, _, _, _, _, _ => fun y hy => by cases hy
  | [], y0 :: ys, _, hl, _, _, _, _ => by simp at hl
  | x0 :: xs, y0 :: ys, v, hl, hx, hy, hxy, h => by
    have hx1 := (List.pairwise_cons.1 hx).1
    have hx2 := (List.pairwise_cons.1 hx).2
    have hy1 := (List.pairwise_cons.1 hy).1
    have hy2 := (List.pairwise_cons.1 hy).2
    have hne0 : ∀ y ∈ y0 :: ys, a x0 ^^^ b y ≠ 0 := fun y hy => fx_ne (hxy x0 (List.mem_cons_self ..) y hy)
    have hne : ∀ x ∈ xs, ∀ y ∈ y0 :: ys, a x ^^^ b y ≠ 0 := fun x hxm y hy => fx_ne (hxy x (List.mem_cons_of_mem _ hxm) y hy)
    obtain ⟨w, hw⟩ : ∃ w : Nat → UInt8, ∀ y, w y = fm (v y) (fi (a x0 ^^^ b y)) := ⟨_, fun _ => rfl⟩
    have hvw : ∀ y ∈ y0 :: ys, v y = fm (w y) (a x0 ^^^ b y) := fun y hy => by rw [hw, fm_assoc, fi_fm _ (hne0 y hy), fm_one]
    have h0 : w y0 ^^^ lsum w ys = 0 := by
      have := h x0 (List.mem_cons_self ..)
      rw [← lsum_congr (f := w) _ (fun y _ => hw y)] at this
      exact this
    have hw0 : w y0 = lsum w ys := fx_cancel _ _ h0
    have hall0 : lsum w (y0 :: ys) = 0 := h0
    have hS : ∀ x ∈ xs, lsum (fun y => fm (w y) (fi (a x ^^^ b y))) (y0 :: ys) = 0 := fun x hxm => by
      have hsum := h x (List.mem_cons_of_mem _ hxm)
      have e : ∀ y ∈ y0 :: ys, fm (v y) (fi (a x ^^^ b y)) = w y ^^^ fm (a x0 ^^^ a x) (fm (w y) (fi (a x ^^^ b y))) := fun y hy => by
        have hq := hne x hxm y hy
        have e1 : a x0 ^^^ b y = (a x ^^^ b y) ^^^ (a x0 ^^^ a x) := by
          rw [fx_comm (a x0) (a x), ← fx_assoc, fx_assoc (a x), fx_comm (b y), ← fx_assoc, fx_self, zero_fx, fx_comm]
        rw [hvw y hy, e1, fm_xor, xor_fm, fm_assoc, fm_fi _ hq, fm_one, fm_comm (w y) (a x0 ^^^ a x), fm_assoc]
      rw [lsum_congr _ e, lsum_xor, hall0, zero_fx, lsum_mul] at hsum
      rw [fm_comm] at hsum
      exact fm_ne hsum (fx_ne (hx1 x hxm))
    have hS2 : ∀ x ∈ xs, lsum (fun y => fm (fm (w y) (b y ^^^ b y0)) (fi (a x ^^^ b y))) ys = 0 := fun x hxm => by
      have hs := hS x hxm
      have hq0 := hne x hxm y0 (List.mem_cons_self ..)
      rw [lsum, hw0, fm_comm (lsum w ys), ← lsum_mul, ← lsum_xor] at hs
      have e : ∀ y ∈ ys, fm (fi (a x ^^^ b y0)) (w y) ^^^ fm (w y) (fi (a x ^^^ b y)) = fm (fi (a x ^^^ b y0)) (fm (fm (w y) (b y ^^^ b y0)) (fi (a x ^^^ b y))) := fun y hy => by
        have hq := hne x hxm y (List.mem_cons_of_mem _ hy)
        have e1 : (a x ^^^ b y) ^^^ (a x ^^^ b y0) = b y ^^^ b y0 := by
          rw [fx_comm (a x) (b y), fx_assoc, ← fx_assoc (a x), fx_self, zero_fx]
        rw [fm_comm (fi (a x ^^^ b y0)) (w y), ← fm_xor, fx_comm, fi_add hq hq0, e1]
        rw [fm_comm (fi (a x ^^^ b y0)) (fm (fm (w y) (b y ^^^ b y0)) (fi (a x ^^^ b y))), fm_assoc (w y), fm_assoc (w y)]
      rw [lsum_congr _ e, lsum_mul, fm_comm] at hs
      exact fm_ne hs (fi_ne hq0)
    have ih := cauchy a b xs ys (fun y => fm (w y) (b y ^^^ b y0)) (by simpa using hl) hx2 hy2 (fun x hxm y hym => hxy x (List.mem_cons_of_mem _ hxm) y (List.mem_cons_of_mem _ hym)) hS2
    have hwy : ∀ y ∈ ys, w y = 0 := fun y hym => fm_ne (ih y hym) (fx_ne (fun e => hy1 y hym e.symm))
    have hwy0 : w y0 = 0 := by
      rw [hw0, lsum_congr (g := fun _ => 0) ys hwy]
      have : ∀ l : List Nat, lsum (fun _ => 0) l = 0 := fun l => by
        induction l with
        | nil => rfl
        | cons x r ih => rw [lsum, ih, fx_self]
      exact this ys
    intro y hym
    rw [hvw y hym]
    rcases List.mem_cons.1 hym with e | e
    · rw [e, hwy0, zero_fm]
    · rw [hwy y e, zero_fm]

/-- the row number x of the identity with Cauchy's matrix below it -/
def wholeC (n x j : Nat) : UInt8 := if x < n then one x j else fi (UInt8.ofNat (x ^^^ j))
theorem ofNat_xor (x y : Nat) (hx : x < 256) (hy : y < 256) : UInt8.ofNat (x ^^^ y) = UInt8.ofNat x ^^^ UInt8.ofNat y := by
  apply u8_ext
  have hxy : x ^^^ y < 256 := Nat.xor_lt_two_pow (n := 8) hx hy
  rw [UInt8.toNat_xor, UInt8.toNat_ofNat', UInt8.toNat_ofNat', UInt8.toNat_ofNat', Nat.mod_eq_of_lt hxy, Nat.mod_eq_of_lt hx, Nat.mod_eq_of_lt hy]
theorem ofNat_ne {x y : Nat} (hx : x < 256) (hy : y < 256) (h : x ≠ y) : UInt8.ofNat x ≠ UInt8.ofNat y := fun e => h (by
  have := congrArg UInt8.toNat e
  rwa [UInt8.toNat_ofNat', UInt8.toNat_ofNat', Nat.mod_eq_of_lt hx, Nat.mod_eq_of_lt hy] at this)
theorem filter_both (p : Nat → Bool) (l : List Nat) : (l.filter p).length + (l.filter fun x => !p x).length = l.length := by
  induction l with
  | nil => rfl
  | cons x r ih =>
    cases hp : p x
    · rw [List.filter_cons_of_neg (by simp [hp]), List.filter_cons_of_pos (by simp [hp]), List.length_cons, List.length_cons]; omega
    · rw [List.filter_cons_of_pos hp, List.filter_cons_of_neg (by simp [hp]), List.length_cons, List.length_cons]; omega
theorem picked_inverse (n m : Nat) (P : List Nat) (hn : n + m ≤ 256) (hl : P.length = n) (hnd : P.Nodup) (hP : ∀ x ∈ P, x < n + m) : ∃ X, inverse n (fun i j => wholeC n (P.getD i 0) j) = some X := by
  cases hi : inverse n (fun i j => wholeC n (P.getD i 0) j) with
  | some X => exact ⟨X, rfl⟩
  | none =>
    exfalso
    obtain ⟨v, ⟨t0, ht0, hne⟩, h0⟩ := inverse_none hi
    apply hne
    have hrow : ∀ x ∈ P, sum (fun t => fm (wholeC n x t) (v t)) n = 0 := fun x hx => by
      obtain ⟨s, hs, rfl⟩ := List.getElem_of_mem hx
      have := h0 s (by omega)
      rw [List.getD_eq_getElem?_getD, List.getElem?_eq_getElem hs] at this
      exact this
    have hid : ∀ t, t < n → t ∈ P → v t = 0 := fun t ht htP => by
      have h1 := hrow t htP
      have e : sum (fun u => fm (wholeC n t u) (v u)) n = fm (wholeC n t t) (v t) := sum_one n ht (fun u hu hne => by
        unfold wholeC
        rw [if_pos ht, one_ne (Ne.symm hne), zero_fm])
      rw [e] at h1
      unfold wholeC at h1
      rw [if_pos ht, one_self, one_fm] at h1
      exact h1
    by_cases htP : t0 ∈ P
    · exact hid t0 ht0 htP
    · have hlen : (P.filter fun x => !decide (x < n)).length = ((List.range n).filter fun t => !decide (t ∈ P)).length := by
        have h1 := filter_both (fun x => decide (x < n)) P
        have h2 := filter_both (fun t => decide (t ∈ P)) (List.range n)
        rw [List.length_range] at h2
        have hp : (P.filter fun x => decide (x < n)).Perm ((List.range n).filter fun t => decide (t ∈ P)) := by
          rw [List.perm_ext_iff_of_nodup (hnd.filter _) (List.nodup_range.filter _)]
          intro x
          simp only [List.mem_filter, List.mem_range, decide_eq_true_eq]
          exact And.comm
        have h3 := hp.length_eq
        omega
      refine cauchy UInt8.ofNat UInt8.ofNat (P.filter fun x => !decide (x < n)) ((List.range n).filter fun t => !decide (t ∈ P)) v hlen ?_ ?_ ?_ ?_ t0 (List.mem_filter.2 ⟨List.mem_range.2 ht0, by simpa using htP⟩)
      · exact (hnd.filter _).imp_of_mem fun hx hx' hne => ofNat_ne (by have := hP _ (List.mem_filter.1 hx).1; omega) (by have := hP _ (List.mem_filter.1 hx').1; omega) hne
      · exact (List.nodup_range.filter _).imp_of_mem fun hx hx' hne => ofNat_ne (by have := List.mem_range.1 (List.mem_filter.1 hx).1; omega) (by have := List.mem_range.1 (List.mem_filter.1 hx').1; omega) hne
      · intro x hx y hy
        have h1 := List.mem_filter.1 hx
        have h2 := List.mem_range.1 (List.mem_filter.1 hy).1
        have h3 := hP x h1.1
        have h4 : ¬ x < n := by simpa using h1.2
        exact ofNat_ne (by omega) (by omega) (by omega)
      · intro x hx
        have h1 := List.mem_filter.1 hx
        have h3 := hP x h1.1
        have h4 : ¬ x < n := by simpa using h1.2
        rw [lsum_filter _ _ _ (fun y hy hf => by
          have hyP : y ∈ P := by simpa using hf
          rw [hid y (List.mem_range.1 hy) hyP, zero_fm]), lsum_range, ← hrow x h1.1]
        apply sum_congr
        intro t ht
        unfold wholeC
        rw [if_neg h4, ofNat_xor x t (by omega) (by omega), fm_comm]
end Go.Proofs.YtjbedcgacnnanaaDoor.Lin
