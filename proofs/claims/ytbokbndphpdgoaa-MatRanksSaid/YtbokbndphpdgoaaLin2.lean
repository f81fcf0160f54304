/-
  Matrices over the field, plain: row operations, and what they keep.
-/
import Derived.Test.YtbokbndphpdgoaaLin
namespace Go.Proofs.Ytbokbndphpdgoaa.Lin
set_option linter.unusedVariables false
set_option linter.unusedSimpArgs false

/-- T works on the first n rows as a product from the left does -/
def RowOp (n : Nat) (T : (Nat → Nat → UInt8) → Nat → Nat → UInt8) : Prop := ∀ X i j, i < n → T X i j = mm n (T one) X i j
/-- two row operations that undo each other -/
structure Undo (n : Nat) (T T' : (Nat → Nat → UInt8) → Nat → Nat → UInt8) : Prop where
  op : RowOp n T
  op' : RowOp n T'
  left : ∀ X i j, i < n → T' (T X) i j = X i j
  right : ∀ X i j, i < n → T (T' X) i j = X i j
/-- what the steps keep: V and B undo each other, and B times M is W -/
structure Inv (n C : Nat) (M W B V : Nat → Nat → UInt8) : Prop where
  vb : ∀ i j, i < n → j < n → mm n V B i j = one i j
  bv : ∀ i j, i < n → j < n → mm n B V i j = one i j
  bm : ∀ i j, i < n → j < C → mm n B M i j = W i j
theorem Inv.start (n C : Nat) (M : Nat → Nat → UInt8) : Inv n C M M one one :=
  ⟨fun i j hi _ => mm_one_left _ _ hi, fun i j hi _ => mm_one_left _ _ hi, fun i j hi _ => mm_one_left _ _ hi⟩
theorem Inv.op {n C : Nat} {M W B V : Nat → Nat → UInt8} {T T' : (Nat → Nat → UInt8) → Nat → Nat → UInt8} (h : Inv n C M W B V) (u : Undo n T T') : Inv n C M (T W) (T B) (mm n V (T' one)) := by
  refine ⟨fun i j hi hj => ?_, fun i j hi hj => ?_, fun i j hi hj => ?_⟩
  · rw [mm_assoc]
    have e : ∀ t, t < n → mm n (T' one) (T B) t j = B t j := fun t ht => by rw [← u.op' (T B) t j ht, u.left B t j ht]
    rw [mm_congr (fun _ _ => rfl) e]
    exact h.vb i j hi hj
  · have e : ∀ t, t < n → T B i t = mm n (T one) B i t := fun t _ => u.op B i t hi
    rw [mm_congr e (fun _ _ => rfl), mm_assoc]
    have e2 : ∀ t, t < n → mm n B (mm n V (T' one)) t j = T' one t j := fun t ht => by
      rw [← mm_assoc, mm_congr (fun s hs => h.bv t s ht hs) (fun _ _ => rfl), mm_one_left _ _ ht]
    rw [mm_congr (fun _ _ => rfl) e2, ← u.op (T' one) i j hi, u.right one i j hi]
  · have e : ∀ t, t < n → T B i t = mm n (T one) B i t := fun t _ => u.op B i t hi
    rw [mm_congr e (fun _ _ => rfl), mm_assoc, mm_congr (fun _ _ => rfl) (fun t ht => h.bm t j ht hj), ← u.op W i j hi]

/-! the three operations -/
/-- swap the rows i and p -/
def swapF (i p : Nat) (X : Nat → Nat → UInt8) (r j : Nat) : UInt8 := if r = i then X p j else if r = p then X i j else X r j
/-- multiply the row i by c -/
def scaleF (i : Nat) (c : UInt8) (X : Nat → Nat → UInt8) (r j : Nat) : UInt8 := if r = i then fm c (X r j) else X r j
/-- add d r times the row i to each other row r -/
def clearF (i : Nat) (d : Nat → UInt8) (X : Nat → Nat → UInt8) (r j : Nat) : UInt8 := if r = i then X r j else X r j ^^^ fm (d r) (X i j)
theorem mm_left_xor (n : Nat) (a b c : Nat → Nat → UInt8) (i j : Nat) : mm n (fun r t => a r t ^^^ b r t) c i j = mm n a c i j ^^^ mm n b c i j := by
  unfold mm
  rw [← sum_xor]
  apply sum_congr
  intro t _
  rw [xor_fm]
theorem mm_row (n : Nat) {a b : Nat → Nat → UInt8} (c : Nat → Nat → UInt8) (i i' j : Nat) (h : ∀ t, t < n → a i t = b i' t) : mm n a c i j = mm n b c i' j := by
  unfold mm
  apply sum_congr
  intro t ht
  rw [h t ht]
theorem undo_swap {n i p : Nat} (hi : i < n) (hp : p < n) : Undo n (swapF i p) (swapF i p) := by
  have op : RowOp n (swapF i p) := by
    intro X r j hr
    unfold swapF
    by_cases h1 : r = i
    · rw [if_pos h1, mm_row n X r p j (b := one) (fun t _ => if_pos h1), mm_one_left _ _ hp]
    · by_cases h2 : r = p
      · rw [if_neg h1, if_pos h2, mm_row n X r i j (b := one) (fun t _ => by rw [if_neg h1, if_pos h2]), mm_one_left _ _ hi]
      · rw [if_neg h1, if_neg h2, mm_row n X r r j (b := one) (fun t _ => by rw [if_neg h1, if_neg h2]), mm_one_left _ _ hr]
  have two : ∀ X r j, r < n → swapF i p (swapF i p X) r j = X r j := by
    intro X r j _
    unfold swapF
    by_cases h1 : r = i
    · subst h1
      by_cases h2 : p = r
      · subst h2; simp
      · simp [h2]
    · by_cases h2 : r = p
      · subst h2; simp [h1]
      · simp [h1, h2]
  exact ⟨op, op, two, two⟩
theorem scale_op {n i : Nat} (c : UInt8) : RowOp n (scaleF i c) := by
  intro X r j hr
  unfold scaleF
  by_cases h1 : r = i
  · rw [if_pos h1]
    unfold mm
    rw [sum_congr n (fun t ht => show fm (if r = i then fm c (one r t) else one r t) (X t j) = fm c (fm (one r t) (X t j)) by rw [if_pos h1, fm_assoc]), sum_mul]
    congr 1
    exact (mm_one_left X j hr).symm
  · rw [if_neg h1, mm_row n X r r j (b := one) (fun t _ => if_neg h1), mm_one_left _ _ hr]
theorem undo_scale {n i : Nat} (c c' : UInt8) (h : fm c c' = 1) : Undo n (scaleF i c) (scaleF i c') := by
  have two : ∀ a b : UInt8, fm a b = 1 → ∀ X r j, r < n → scaleF i a (scaleF i b X) r j = X r j := by
    intro a b hab X r j _
    unfold scaleF
    by_cases h1 : r = i
    · rw [if_pos h1, if_pos h1, ← fm_assoc, hab, one_fm]
    · rw [if_neg h1, if_neg h1]
  exact ⟨scale_op c, scale_op c', two c' c (by rw [fm_comm, h]), two c c' h⟩
theorem undo_clear {n i : Nat} (hi : i < n) (d : Nat → UInt8) : Undo n (clearF i d) (clearF i d) := by
  have op : RowOp n (clearF i d) := by
    intro X r j hr
    unfold clearF
    by_cases h1 : r = i
    · rw [if_pos h1, mm_row n X r r j (b := one) (fun t _ => if_pos h1), mm_one_left _ _ hr]
    · rw [if_neg h1]
      have e : mm n (fun r' j' => if r' = i then one r' j' else one r' j' ^^^ fm (d r') (one i j')) X r j = mm n (fun r' t => one r' t ^^^ fm (d r') (one i t)) X r j :=
        mm_row n X r r j (fun t _ => if_neg h1)
      rw [e, mm_left_xor, mm_one_left _ _ hr]
      congr 1
      unfold mm
      rw [sum_congr n (fun t ht => show _ = fm (d r) (fm (one i t) (X t j)) by rw [fm_assoc]), sum_mul]
      congr 1
      exact (mm_one_left X j hi).symm
  have two : ∀ X r j, r < n → clearF i d (clearF i d X) r j = X r j := by
    intro X r j _
    unfold clearF
    by_cases h1 : r = i
    · rw [if_pos h1, if_pos h1]
    · rw [if_neg h1, if_neg h1, if_pos rfl, fx_assoc, fx_self, fx_zero]
  exact ⟨op, op, two, two⟩

/-! the first rows have columns of their own -/
/-- the first n rows have pivots: in the columns pc s there is nothing else; the other rows have nothing before col -/
structure Ech (R : Nat) (W : Nat → Nat → UInt8) (at_ col : Nat) (pc : Nat → Nat) : Prop where
  le : at_ ≤ R
  lt : ∀ s, s < at_ → pc s < col
  unit : ∀ s, s < at_ → ∀ k, k < R → W k (pc s) = one k s
  low : ∀ k, at_ ≤ k → k < R → ∀ t, t < col → W k t = 0
theorem Ech.start (R : Nat) (W : Nat → Nat → UInt8) : Ech R W 0 0 (fun s => s) := ⟨by omega, fun s h => by omega, fun s h => by omega, fun k _ _ t h => by omega⟩
/-- no row from at_ on has anything in the column -/
theorem Ech.skip {R at_ col : Nat} {W : Nat → Nat → UInt8} {pc : Nat → Nat} (h : Ech R W at_ col pc) (h0 : ∀ k, at_ ≤ k → k < R → W k col = 0) : Ech R W at_ (col + 1) pc :=
  ⟨h.le, fun s hs => by have := h.lt s hs; omega, h.unit, fun k h1 h2 t ht => by
    by_cases e : t = col
    · rw [e]; exact h0 k h1 h2
    · exact h.low k h1 h2 t (by omega)⟩
/-- the step at a row p that has something in the column -/
def stepW (at_ col p : Nat) (W X : Nat → Nat → UInt8) : Nat → Nat → UInt8 :=
  clearF at_ (fun k => scaleF at_ (fi (swapF at_ p W at_ col)) (swapF at_ p W) k col) (scaleF at_ (fi (swapF at_ p W at_ col)) (swapF at_ p X))
theorem Ech.step {R at_ col p : Nat} {W : Nat → Nat → UInt8} {pc : Nat → Nat} (h : Ech R W at_ col pc) (hp : at_ ≤ p) (hpR : p < R) (hne : W p col ≠ 0) :
    Ech R (stepW at_ col p W W) (at_ + 1) (col + 1) (fun s => if s = at_ then col else pc s) := by
  have hsw : swapF at_ p W at_ col = W p col := if_pos rfl
  have hc : fm (fi (W p col)) (W p col) = 1 := fi_fm _ hne
  have haR : at_ < R := by omega
  have sw : ∀ k t, k < R → at_ ≤ k → t < col → swapF at_ p W k t = 0 := by
    intro k t hk hk2 ht
    unfold swapF
    split
    · exact h.low p hp hpR t ht
    · split
      · exact h.low at_ (Nat.le_refl _) haR t ht
      · exact h.low k hk2 hk t ht
  have sc : ∀ k t, k < R → at_ ≤ k → t < col → scaleF at_ (fi (swapF at_ p W at_ col)) (swapF at_ p W) k t = 0 := by
    intro k t hk hk2 ht
    unfold scaleF
    rw [sw k t hk hk2 ht, fm_zero]
    split <;> rfl
  have scA : scaleF at_ (fi (swapF at_ p W at_ col)) (swapF at_ p W) at_ col = 1 := by
    unfold scaleF
    rw [if_pos rfl, hsw, hc]
  refine ⟨by omega, fun s hs => ?_, fun s hs k hk => ?_, fun k h1 h2 t ht => ?_⟩
  · show (if s = at_ then col else pc s) < col + 1
    split
    · omega
    · have := h.lt s (by omega); omega
  · show stepW at_ col p W W k (if s = at_ then col else pc s) = one k s
    unfold stepW
    by_cases hs1 : s = at_
    · rw [if_pos hs1]
      unfold clearF
      by_cases hk1 : k = at_
      · rw [if_pos hk1, hk1, scA, hs1, one_self]
      · rw [if_neg hk1, scA, fm_one, fx_self, hs1, one_ne hk1]
    · rw [if_neg hs1]
      have hps := h.lt s (by omega)
      unfold clearF
      have hz : scaleF at_ (fi (swapF at_ p W at_ col)) (swapF at_ p W) at_ (pc s) = 0 := sc at_ (pc s) haR (Nat.le_refl _) hps
      by_cases hk1 : k = at_
      · rw [if_pos hk1, hk1, hz, one_ne (fun e => hs1 e.symm)]
      · rw [if_neg hk1, hz, fm_zero, fx_zero]
        unfold scaleF
        rw [if_neg hk1]
        unfold swapF
        rw [if_neg hk1]
        by_cases hk2 : k = p
        · rw [if_pos hk2, h.unit s (by omega) at_ haR, one_ne (fun e => hs1 e.symm), one_ne (by omega)]
        · rw [if_neg hk2, h.unit s (by omega) k hk]
  · show stepW at_ col p W W k t = 0
    unfold stepW clearF
    rw [if_neg (by omega)]
    by_cases ht1 : t = col
    · rw [ht1, scA, fm_one, fx_self]
    · rw [sc at_ t haR (Nat.le_refl _) (by omega), fm_zero, fx_zero, sc k t h2 (by omega) (by omega)]
theorem Inv.step {R C at_ col p : Nat} {M W B V : Nat → Nat → UInt8} (h : Inv R C M W B V) (ha : at_ < R) (hp : p < R) (hne : W p col ≠ 0) :
    ∃ V', Inv R C M (stepW at_ col p W W) (stepW at_ col p W B) V' := by
  have hsw : swapF at_ p W at_ col = W p col := if_pos rfl
  have h1 := h.op (undo_swap ha hp)
  have h2 := h1.op (undo_scale (n := R) (i := at_) (fi (swapF at_ p W at_ col)) (W p col) (by rw [hsw]; exact fi_fm _ hne))
  have h3 := h2.op (undo_clear ha (fun k => scaleF at_ (fi (swapF at_ p W at_ col)) (swapF at_ p W) k col))
  exact ⟨_, h3⟩
end Go.Proofs.Ytbokbndphpdgoaa.Lin
