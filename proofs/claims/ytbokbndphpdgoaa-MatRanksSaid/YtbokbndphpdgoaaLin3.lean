/-
  Matrices over the field, plain: the inverse by steps, and why there is none; ranks.
-/
import Derived.Test.YtbokbndphpdgoaaLin2
namespace Go.Proofs.Ytbokbndphpdgoaa.Lin
set_option linter.unusedVariables false
set_option linter.unusedSimpArgs false

/-! the first row that has something in the column -/
def pivGo (f : Nat → UInt8) : Nat → Nat → Nat
  | 0, i => i
  | k + 1, i => if f i = 0 then pivGo f k (i + 1) else i
def pivot (f : Nat → UInt8) (R at_ : Nat) : Nat := pivGo f (R - at_) at_
theorem pivGo_spec (f : Nat → UInt8) : ∀ k i, i ≤ pivGo f k i ∧ pivGo f k i ≤ i + k ∧ (∀ t, i ≤ t → t < pivGo f k i → f t = 0) ∧ (pivGo f k i < i + k → f (pivGo f k i) ≠ 0)
  | 0, i => ⟨Nat.le_refl _, Nat.le_refl _, fun t h1 h2 => absurd h2 (by simp [pivGo]; omega), fun h => absurd h (by simp [pivGo])⟩
  | k + 1, i => by
    unfold pivGo
    by_cases h : f i = 0
    · rw [if_pos h]
      obtain ⟨h1, h2, h3, h4⟩ := pivGo_spec f k (i + 1)
      refine ⟨by omega, by omega, fun t ht1 ht2 => ?_, fun hlt => h4 (by omega)⟩
      by_cases e : t = i
      · rw [e]; exact h
      · exact h3 t (by omega) ht2
    · rw [if_neg h]
      exact ⟨Nat.le_refl _, by omega, fun t h1 h2 => by omega, fun _ => h⟩
theorem pivot_spec (f : Nat → UInt8) {R at_ : Nat} (h : at_ ≤ R) : at_ ≤ pivot f R at_ ∧ pivot f R at_ ≤ R ∧ (∀ t, at_ ≤ t → t < pivot f R at_ → f t = 0) ∧ (pivot f R at_ < R → f (pivot f R at_) ≠ 0) := by
  obtain ⟨h1, h2, h3, h4⟩ := pivGo_spec f (R - at_) at_
  exact ⟨h1, by unfold pivot; omega, h3, fun hlt => h4 (by unfold pivot at hlt; omega)⟩
theorem pivot_unique (f : Nat → UInt8) {R at_ i : Nat} (h : at_ ≤ R) (h1 : at_ ≤ i) (h2 : i ≤ R) (h3 : ∀ t, at_ ≤ t → t < i → f t = 0) (h4 : i < R → f i ≠ 0) : i = pivot f R at_ := by
  obtain ⟨g1, g2, g3, g4⟩ := pivot_spec f h
  rcases Nat.lt_trichotomy i (pivot f R at_) with hl | hl | hl
  · exact absurd (g3 i h1 hl) (h4 (by omega))
  · exact hl
  · exact absurd (h3 _ g1 hl) (g4 (by omega))
theorem pivot_congr {f g : Nat → UInt8} {R at_ : Nat} (h : at_ ≤ R) (e : ∀ t, at_ ≤ t → t < R → f t = g t) : pivot f R at_ = pivot g R at_ := by
  obtain ⟨g1, g2, g3, g4⟩ := pivot_spec f h
  exact pivot_unique g h g1 g2 (fun t h1 h2 => by rw [← e t h1 (by omega)]; exact g3 t h1 h2) (fun hl => by rw [← e _ g1 hl]; exact g4 hl)

/-- the inverse by steps: none, where a column has nothing left -/
def gaussGo (n : Nat) : Nat → Nat → (Nat → Nat → UInt8) → (Nat → Nat → UInt8) → Option (Nat → Nat → UInt8)
  | 0, _, _, B => some B
  | k + 1, i, W, B =>
    if pivot (fun t => W t i) n i < n then gaussGo n k (i + 1) (stepW i i (pivot (fun t => W t i) n i) W W) (stepW i i (pivot (fun t => W t i) n i) W B) else none
theorem Ech.congr {R at_ col : Nat} {W : Nat → Nat → UInt8} {pc pc' : Nat → Nat} (h : Ech R W at_ col pc) (e : ∀ s, s < at_ → pc s = pc' s) : Ech R W at_ col pc' :=
  ⟨h.le, fun s hs => by rw [← e s hs]; exact h.lt s hs, fun s hs => by rw [← e s hs]; exact h.unit s hs, h.low⟩
theorem gauss_some {n : Nat} {M : Nat → Nat → UInt8} : ∀ k i W B V R, i + k = n → Inv n n M W B V → Ech n W i i (fun s => s) → gaussGo n k i W B = some R →
    (∀ i j, i < n → j < n → mm n R M i j = one i j) ∧ (∀ i j, i < n → j < n → mm n M R i j = one i j)
  | 0, i, W, B, V, R, hk, hI, hE, h => by
    have hR : B = R := by simpa [gaussGo] using h
    subst hR
    have hW : ∀ k j, k < n → j < n → W k j = one k j := fun k j hk' hj => hE.unit j (by omega) k hk'
    have h1 : ∀ i j, i < n → j < n → mm n B M i j = one i j := fun a b ha hb => by rw [hI.bm a b ha hb, hW a b ha hb]
    refine ⟨h1, fun a b ha hb => ?_⟩
    have hMV : ∀ s t, s < n → t < n → M s t = V s t := fun s t hs ht => by
      have e : mm n V (mm n B M) s t = M s t := by
        rw [← mm_assoc, mm_congr (fun u hu => hI.vb s u hs hu) (fun _ _ => rfl), mm_one_left _ _ hs]
      rw [← e, mm_congr (fun _ _ => rfl) (fun u hu => h1 u t hu ht), mm_one_right _ _ ht]
    rw [mm_congr (fun t ht => hMV a t ha ht) (fun _ _ => rfl)]
    exact hI.vb a b ha hb
  | k + 1, i, W, B, V, R, hk, hI, hE, h => by
    unfold gaussGo at h
    by_cases hp : pivot (fun t => W t i) n i < n
    · rw [if_pos hp] at h
      obtain ⟨g1, g2, g3, g4⟩ := pivot_spec (fun t => W t i) (show i ≤ n by omega)
      obtain ⟨V', hI'⟩ := hI.step (at_ := i) (col := i) (by omega) hp (g4 hp)
      have hE' := (hE.step g1 hp (g4 hp)).congr (pc' := fun s => s) (fun s _ => by
        show (if s = i then i else s) = s
        split
        · omega
        · rfl)
      exact gauss_some k (i + 1) _ _ V' R (by omega) hI' hE' h
    · rw [if_neg hp] at h; cases h
theorem gauss_none {n : Nat} {M : Nat → Nat → UInt8} : ∀ k i W B V, i + k = n → Inv n n M W B V → Ech n W i i (fun s => s) → gaussGo n k i W B = none →
    ∃ v : Nat → UInt8, (∃ t, t < n ∧ v t ≠ 0) ∧ ∀ s, s < n → sum (fun t => fm (M s t) (v t)) n = 0
  | 0, i, W, B, V, hk, hI, hE, h => by simp [gaussGo] at h
  | k + 1, i, W, B, V, hk, hI, hE, h => by
    unfold gaussGo at h
    obtain ⟨g1, g2, g3, g4⟩ := pivot_spec (fun t => W t i) (show i ≤ n by omega)
    by_cases hp : pivot (fun t => W t i) n i < n
    · rw [if_pos hp] at h
      obtain ⟨V', hI'⟩ := hI.step (at_ := i) (col := i) (by omega) hp (g4 hp)
      have hE' := (hE.step g1 hp (g4 hp)).congr (pc' := fun s => s) (fun s _ => by
        show (if s = i then i else s) = s
        split
        · omega
        · rfl)
      exact gauss_none k (i + 1) _ _ V' (by omega) hI' hE' h
    · have hz : ∀ t, i ≤ t → t < n → W t i = 0 := fun t h1 h2 => g3 t h1 (by omega)
      -- the vector: in the columns before i what the column i has; 1 at i
      refine ⟨fun t => if t < i then W t i else if t = i then 1 else 0, ⟨i, by omega, by simp⟩, fun s hs => ?_⟩
      have hWv : ∀ r, r < n → mm n W (fun t _ => if t < i then W t i else if t = i then 1 else 0) r 0 = 0 := by
        intro r hr
        unfold mm
        have hsplit : ∀ t, t < n → fm (W r t) (if t < i then W t i else if t = i then 1 else 0) = (if t = r ∧ t < i then W r i else 0) ^^^ (if t = i then W r i else 0) := by
          intro t ht
          by_cases h1 : t < i
          · rw [if_pos h1, hE.unit t h1 r hr, if_neg (show ¬ t = i by omega), fx_zero]
            by_cases h2 : t = r
            · rw [h2, one_self, one_fm, if_pos ⟨rfl, by omega⟩]
            · rw [one_ne (fun e => h2 e.symm), zero_fm, if_neg (fun e => h2 e.1)]
          · rw [if_neg h1, if_neg (show ¬ (t = r ∧ t < i) by omega), zero_fx]
            by_cases h2 : t = i
            · rw [if_pos h2, if_pos h2, fm_one, h2]
            · rw [if_neg h2, if_neg h2, fm_zero]
        rw [sum_congr n hsplit, sum_xor]
        have e2 : sum (fun t => if t = i then W r i else 0) n = W r i := by
          rw [sum_one (i := i) n (by omega) (fun t _ hne => if_neg hne), if_pos rfl]
        rw [e2]
        by_cases hri : r < i
        · rw [sum_one (i := r) n hr (fun t _ hne => if_neg (fun e => hne e.1)), if_pos ⟨rfl, hri⟩, fx_self]
        · rw [sum_zero n (fun t _ => if_neg (by omega)), hz r (by omega) hr, fx_self]
      have hMB : mm n M (fun t _ => if t < i then W t i else if t = i then 1 else 0) s 0 = 0 := by
        have e1 : mm n V (mm n W (fun t _ => if t < i then W t i else if t = i then 1 else 0)) s 0 = mm n M (fun t _ => if t < i then W t i else if t = i then 1 else 0) s 0 := by
          rw [← mm_assoc]
          refine mm_congr (fun t ht => ?_) (fun _ _ => rfl)
          have e3 : mm n V W s t = mm n V (mm n B M) s t := mm_congr (fun _ _ => rfl) (fun u hu => (hI.bm u t hu ht).symm)
          rw [e3, ← mm_assoc, mm_congr (fun u hu => hI.vb s u hs hu) (fun _ _ => rfl), mm_one_left _ _ hs]
        rw [← e1]
        unfold mm at hWv ⊢
        exact sum_zero n (fun t ht => by rw [hWv t ht, fm_zero])
      exact hMB
/-- the inverse's cells -/
def inverse (n : Nat) (M : Nat → Nat → UInt8) : Option (Nat → Nat → UInt8) := gaussGo n n 0 M one
theorem inverse_some {n : Nat} {M R : Nat → Nat → UInt8} (h : inverse n M = some R) : (∀ i j, i < n → j < n → mm n R M i j = one i j) ∧ (∀ i j, i < n → j < n → mm n M R i j = one i j) :=
  gauss_some n 0 M one one R (by omega) (Inv.start n n M) (Ech.start n M) h
theorem inverse_none {n : Nat} {M : Nat → Nat → UInt8} (h : inverse n M = none) : ∃ v : Nat → UInt8, (∃ t, t < n ∧ v t ≠ 0) ∧ ∀ s, s < n → sum (fun t => fm (M s t) (v t)) n = 0 :=
  gauss_none n 0 M one one (by omega) (Inv.start n n M) (Ech.start n M) h
/-- a matrix that has an inverse from the left has one by steps -/
theorem inverse_of_left {n : Nat} {M N : Nat → Nat → UInt8} (h : ∀ i j, i < n → j < n → mm n N M i j = one i j) : ∃ R, inverse n M = some R := by
  cases hi : inverse n M with
  | some R => exact ⟨R, rfl⟩
  | none =>
    obtain ⟨v, ⟨t, ht, hv⟩, h0⟩ := inverse_none hi
    exfalso
    apply hv
    have e : mm n (mm n N M) (fun t _ => v t) t 0 = v t := by
      rw [mm_congr (fun u hu => h t u ht hu) (fun _ _ => rfl)]
      exact mm_one_left (fun t _ => v t) 0 ht
    rw [← e, mm_assoc]
    unfold mm
    exact sum_zero n (fun u hu => by rw [h0 u hu, fm_zero])
/-- inverses are unique -/
theorem inverse_unique {n : Nat} {M A B : Nat → Nat → UInt8} (h1 : ∀ i j, i < n → j < n → mm n A M i j = one i j) (h2 : ∀ i j, i < n → j < n → mm n M B i j = one i j) : ∀ i j, i < n → j < n → A i j = B i j := by
  intro i j hi hj
  have e1 : mm n (mm n A M) B i j = B i j := by rw [mm_congr (fun u hu => h1 i u hi hu) (fun _ _ => rfl), mm_one_left _ _ hi]
  have e2 : mm n A (mm n M B) i j = A i j := by rw [mm_congr (fun _ _ => rfl) (fun u hu => h2 u j hu hj), mm_one_right _ _ hj]
  rw [← e2, ← mm_assoc, e1]
/-- a row that makes nothing of a matrix with an inverse is nothing -/
theorem flat_zero {n : Nat} {M R : Nat → Nat → UInt8} (h : inverse n M = some R) (v : Nat → UInt8) (h0 : ∀ j, j < n → sum (fun t => fm (v t) (M t j)) n = 0) : ∀ j, j < n → v j = 0 := by
  intro j hj
  have hr := (inverse_some h).2
  have e1 : mm n (mm n (fun _ t => v t) M) R 0 j = 0 := by
    unfold mm
    refine sum_zero n (fun t ht => ?_)
    rw [show sum (fun s => fm (v s) (M s t)) n = 0 from h0 t ht, zero_fm]
  rw [mm_assoc, mm_congr (fun _ _ => rfl) (fun t ht => hr t j ht hj), mm_one_right _ _ hj] at e1
  exact e1

/-! ranks -/
/-- the rank by steps, on the way -/
def rankGo (R : Nat) : Nat → Nat → Nat → (Nat → Nat → UInt8) → Nat
  | 0, at_, _, _ => at_
  | k + 1, at_, col, W =>
    if at_ < R then
      if pivot (fun t => W t col) R at_ < R then rankGo R k (at_ + 1) (col + 1) (stepW at_ col (pivot (fun t => W t col) R at_) W W) else rankGo R k at_ (col + 1) W
    else at_
def rank (R C : Nat) (M : Nat → Nat → UInt8) : Nat := rankGo R C 0 0 M
theorem rankGo_le (R : Nat) : ∀ k at_ col W, rankGo R k at_ col W ≤ at_ + k
  | 0, at_, col, W => Nat.le_refl _
  | k + 1, at_, col, W => by
    unfold rankGo
    split
    · split
      · have := rankGo_le R k (at_ + 1) (col + 1) (stepW at_ col (pivot (fun t => W t col) R at_) W W); omega
      · have := rankGo_le R k at_ (col + 1) W; omega
    · omega
theorem rank_gauss (n : Nat) : ∀ k i W B, i + k = n → ((gaussGo n k i W B).isSome = true ↔ rankGo n k i i W = n)
  | 0, i, W, B, h => by simp [gaussGo, rankGo]; omega
  | k + 1, i, W, B, h => by
    unfold gaussGo rankGo
    rw [if_pos (show i < n by omega)]
    by_cases hp : pivot (fun t => W t i) n i < n
    · rw [if_pos hp, if_pos hp]
      exact rank_gauss n k (i + 1) _ _ (by omega)
    · rw [if_neg hp, if_neg hp]
      have := rankGo_le n k i (i + 1) W
      simp; omega
theorem rank_inverse (n : Nat) (M : Nat → Nat → UInt8) : (inverse n M).isSome = true ↔ rank n n M = n := rank_gauss n n 0 M one (by omega)
/-- what a rank says: rows of their own make all others -/
structure Ranked (R C : Nat) (M : Nat → Nat → UInt8) (ρ : Nat) : Prop where
  ex : ∃ W B V pc col, Inv R C M W B V ∧ Ech R W ρ col pc ∧ (∀ s, s < ρ → pc s < C) ∧ (∀ k, ρ ≤ k → k < R → ∀ t, t < C → W k t = 0)
theorem rankGo_ranked {R C : Nat} {M : Nat → Nat → UInt8} : ∀ k at_ col W B V pc, col + k = C → Inv R C M W B V → Ech R W at_ col pc → Ranked R C M (rankGo R k at_ col W)
  | 0, at_, col, W, B, V, pc, hk, hI, hE => ⟨W, B, V, pc, col, hI, hE, fun s hs => by have := hE.lt s hs; omega, fun k h1 h2 t ht => hE.low k h1 h2 t (by omega)⟩
  | k + 1, at_, col, W, B, V, pc, hk, hI, hE => by
    unfold rankGo
    by_cases ha : at_ < R
    · rw [if_pos ha]
      obtain ⟨g1, g2, g3, g4⟩ := pivot_spec (fun t => W t col) hE.le
      by_cases hp : pivot (fun t => W t col) R at_ < R
      · rw [if_pos hp]
        obtain ⟨V', hI'⟩ := hI.step (at_ := at_) (col := col) ha hp (g4 hp)
        exact rankGo_ranked k (at_ + 1) (col + 1) _ _ V' _ (by omega) hI' (hE.step g1 hp (g4 hp))
      · rw [if_neg hp]
        exact rankGo_ranked k at_ (col + 1) W B V pc (by omega) hI (hE.skip (fun t h1 h2 => g3 t h1 (by omega)))
    · rw [if_neg ha]
      exact ⟨W, B, V, pc, col, hI, hE, fun s hs => by have := hE.lt s hs; omega, fun k h1 h2 t ht => by omega⟩
theorem rank_ranked (R C : Nat) (M : Nat → Nat → UInt8) : Ranked R C M (rank R C M) := rankGo_ranked C 0 0 M one one _ (by omega) (Inv.start R C M) (Ech.start R M)
/-- more rows than columns: some sum of rows is nothing -/
theorem null_rows : ∀ (q p : Nat) (A : Nat → Nat → UInt8), q < p → ∃ x : Nat → UInt8, (∃ i, i < p ∧ x i ≠ 0) ∧ ∀ j, j < q → sum (fun i => fm (x i) (A i j)) p = 0
  | 0, p, A, h => ⟨fun i => if i = 0 then 1 else 0, ⟨0, h, by simp⟩, fun j hj => by omega⟩
  | q + 1, 0, A, h => by omega
  | q + 1, p + 1, A, h => by
    by_cases hall : ∀ i, i < p + 1 → A i q = 0
    · obtain ⟨x, hx, h0⟩ := null_rows q (p + 1) A (by omega)
      refine ⟨x, hx, fun j hj => ?_⟩
      by_cases e : j = q
      · rw [e]; exact sum_zero _ (fun i hi => by rw [hall i hi, fm_zero])
      · exact h0 j (by omega)
    · have hex : ∃ i, i < p + 1 ∧ A i q ≠ 0 := by
        apply Classical.byContradiction
        intro hno
        exact hall (fun i hi => Classical.byContradiction fun hne => hno ⟨i, hi, hne⟩)
      obtain ⟨i0, hi0, hne⟩ := hex
      -- the row i0 stands last
      obtain ⟨S, hS⟩ : ∃ S : Nat → Nat, S = fun i => if i = i0 then p else if i = p then i0 else i := ⟨_, rfl⟩
      have hSp : S p = i0 := by
        rw [hS]
        show (if p = i0 then p else if p = p then i0 else p) = i0
        split
        · assumption
        · simp
      obtain ⟨x, ⟨i, hi, hxi⟩, h0⟩ := null_rows q p (fun i j => A (S i) j ^^^ fm (fm (A (S i) q) (fi (A i0 q))) (A i0 j)) (by omega)
      obtain ⟨y, hy⟩ : ∃ y : Nat → UInt8, y = fun i => if i < p then x i else fm (sum (fun i => fm (x i) (A (S i) q)) p) (fi (A i0 q)) := ⟨_, rfl⟩
      have hyl : ∀ i, i < p → y i = x i := fun i hi => by rw [hy]; exact if_pos hi
      have hyp : y p = fm (sum (fun i => fm (x i) (A (S i) q)) p) (fi (A i0 q)) := by rw [hy]; exact if_neg (by omega)
      -- over the rows as S lays them
      have key : ∀ j, j < q + 1 → sum (fun i => fm (y i) (A (S i) j)) (p + 1) = 0 := by
        intro j hj
        show sum (fun i => fm (y i) (A (S i) j)) p ^^^ fm (y p) (A (S p) j) = 0
        rw [sum_congr p (fun t ht => show _ = fm (x t) (A (S t) j) by rw [hyl t ht]), hyp, hSp]
        by_cases e : j = q
        · rw [e, fm_assoc, fi_fm _ hne, fm_one, fx_self]
        · have h1 := h0 j (by omega)
          have h2 : sum (fun i => fm (x i) (A (S i) j ^^^ fm (fm (A (S i) q) (fi (A i0 q))) (A i0 j))) p = sum (fun i => fm (x i) (A (S i) j)) p ^^^ fm (fm (sum (fun i => fm (x i) (A (S i) q)) p) (fi (A i0 q))) (A i0 j) := by
            rw [sum_congr p (fun t _ => show _ = fm (x t) (A (S t) j) ^^^ fm (fm (x t) (A (S t) q)) (fm (fi (A i0 q)) (A i0 j)) by
              rw [fm_xor, fm_assoc, fm_assoc]), sum_xor, sum_mul', fm_assoc]
          rw [h2] at h1
          exact h1
      -- and back
      have hSS : ∀ i, S (S i) = i := by
        intro i
        rw [hS]
        show (if (if i = i0 then p else if i = p then i0 else i) = i0 then p else if (if i = i0 then p else if i = p then i0 else i) = p then i0 else (if i = i0 then p else if i = p then i0 else i)) = i
        by_cases e1 : i = i0
        · rw [if_pos e1]
          by_cases e2 : p = i0
          · rw [if_pos e2]; omega
          · rw [if_neg e2, if_pos rfl]; exact e1.symm
        · rw [if_neg e1]
          by_cases e2 : i = p
          · rw [if_pos e2, if_pos rfl]; exact e2.symm
          · rw [if_neg e2, if_neg e1, if_neg e2]
      have hSl : ∀ i, i < p + 1 → S i < p + 1 := by
        intro i hi
        rw [hS]
        show (if i = i0 then p else if i = p then i0 else i) < p + 1
        split
        · omega
        · split <;> omega
      have perm : ∀ f : Nat → UInt8, sum (fun i => f (S i)) (p + 1) = sum f (p + 1) := by
        intro f
        have e1 : sum (fun i => f (S i)) (p + 1) = sum (fun i => sum (fun t => fm (one (S i) t) (f t)) (p + 1)) (p + 1) :=
          sum_congr _ (fun i hi => by rw [sum_one (i := S i) (p + 1) (hSl i hi) (fun t _ hne => by rw [one_ne (fun e => hne e.symm), zero_fm]), one_self, one_fm])
        rw [e1, sum_swap]
        apply sum_congr
        intro t ht
        rw [sum_mul']
        have e2 : sum (fun i => one (S i) t) (p + 1) = 1 := by
          rw [sum_one (i := S t) (p + 1) (hSl t ht) (fun i _ hne => one_ne (fun e => hne (by rw [← e, hSS]))), hSS, one_self]
        rw [e2, one_fm]
      refine ⟨fun i => y (S i), ⟨S i, hSl i (by omega), by show y (S (S i)) ≠ 0; rw [hSS, hyl i hi]; exact hxi⟩, fun j hj => ?_⟩
      have h3 := perm (fun i => fm (y (S i)) (A i j))
      rw [← h3, ← key j hj]
      apply sum_congr
      intro i _
      show fm (y (S (S i))) (A (S i) j) = _
      rw [hSS]
/-- rows of their own, made of others: there are no more of them than of these -/
theorem rows_le {p q C : Nat} {X A Y : Nat → Nat → UInt8} (h : ∀ i j, i < p → j < C → X i j = mm q A Y i j) (hX : ∀ x : Nat → UInt8, (∀ j, j < C → sum (fun i => fm (x i) (X i j)) p = 0) → ∀ i, i < p → x i = 0) : p ≤ q := by
  rcases Nat.lt_or_ge q p with hlt | hge
  · exfalso
    obtain ⟨x, ⟨i, hi, hx⟩, h0⟩ := null_rows q p A hlt
    refine hx (hX x (fun j hj => ?_) i hi)
    have e : sum (fun i => fm (x i) (X i j)) p = mm p (fun _ t => x t) (mm q A Y) 0 j := sum_congr p (fun t ht => by rw [h t j ht hj])
    rw [e, ← mm_assoc]
    unfold mm
    exact sum_zero q (fun t ht => by rw [h0 t ht, zero_fm])
  · exact hge
/-- any rows of their own that make M's rows and are made of them are as many as the rank -/
theorem ranked_eq {R C m ρ : Nat} {M T A D : Nat → Nat → UInt8} (hr : Ranked R C M ρ) (hT : ∀ x : Nat → UInt8, (∀ j, j < C → sum (fun i => fm (x i) (T i j)) m = 0) → ∀ i, i < m → x i = 0)
    (hA : ∀ i j, i < m → j < C → T i j = mm R A M i j) (hD : ∀ i j, i < R → j < C → M i j = mm m D T i j) : m = ρ := by
  obtain ⟨W, B, V, pc, col, hI, hE, hpc, hlow⟩ := hr.ex
  have hMW : ∀ i j, i < R → j < C → M i j = mm R V W i j := fun i j hi hj => by
    have e : mm R V W i j = mm R V (mm R B M) i j := mm_congr (fun _ _ => rfl) (fun u hu => (hI.bm u j hu hj).symm)
    rw [e, ← mm_assoc, mm_congr (fun u hu => hI.vb i u hi hu) (fun _ _ => rfl), mm_one_left _ _ hi]
  have hcut : ∀ (a : Nat → Nat → UInt8) i j, j < C → mm R a W i j = mm ρ a W i j := by
    intro a i j hj
    have hle := hE.le
    unfold mm
    obtain ⟨d, hd⟩ : ∃ d, R = ρ + d := ⟨R - ρ, by omega⟩
    have : ∀ d, ρ + d ≤ R → sum (fun t => fm (a i t) (W t j)) (ρ + d) = sum (fun t => fm (a i t) (W t j)) ρ := by
      intro d
      induction d with
      | zero => intro _; rfl
      | succ d ih =>
        intro hd
        show sum _ (ρ + d) ^^^ fm (a i (ρ + d)) (W (ρ + d) j) = _
        rw [ih (by omega), hlow (ρ + d) (by omega) (by omega) j hj, fm_zero, fx_zero]
    rw [hd]
    exact this d (by omega)
  apply Nat.le_antisymm
  · refine rows_le (X := T) (A := mm R A V) (Y := W) (C := C) (fun i j hi hj => ?_) hT
    rw [hA i j hi hj, mm_congr (fun _ _ => rfl) (fun t ht => hMW t j ht hj), ← mm_assoc, hcut _ i j hj]
  · refine rows_le (X := W) (A := mm R B D) (Y := T) (C := C) (fun i j hi hj => ?_) (fun x hx i hi => ?_)
    · have hiR : i < R := Nat.lt_of_lt_of_le hi hE.le
      rw [← hI.bm i j hiR hj, mm_congr (fun _ _ => rfl) (fun t ht => hD t j ht hj), ← mm_assoc]
    · have h1 := hx (pc i) (hpc i hi)
      rw [sum_one (i := i) ρ hi (fun t ht hne => by rw [hE.unit i hi t (Nat.lt_of_lt_of_le ht hE.le), one_ne hne, fm_zero]), hE.unit i hi i (Nat.lt_of_lt_of_le hi hE.le), one_self, fm_one] at h1
      exact h1
end Go.Proofs.Ytbokbndphpdgoaa.Lin
