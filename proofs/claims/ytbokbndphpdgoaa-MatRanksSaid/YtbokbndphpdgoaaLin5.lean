/-
  The document's rank, plain: rows taken one by one.
-/
import Derived.Test.YtbokbndphpdgoaaLin3
namespace Go.Proofs.Ytbokbndphpdgoaa.Lin
set_option linter.unusedVariables false
set_option linter.unusedSimpArgs false

/-- the first place that isn't 0, or C -/
def ld (C : Nat) (r : Nat → UInt8) : Nat := pivot r C 0
theorem ld_spec (C : Nat) (r : Nat → UInt8) : ld C r ≤ C ∧ (∀ t, t < ld C r → r t = 0) ∧ (ld C r < C → r (ld C r) ≠ 0) := by
  obtain ⟨_, h2, h3, h4⟩ := pivot_spec r (R := C) (at_ := 0) (by omega)
  exact ⟨h2, fun t ht => h3 t (by omega) ht, h4⟩
theorem ld_unique {C l : Nat} {r : Nat → UInt8} (h1 : l ≤ C) (h2 : ∀ t, t < l → r t = 0) (h3 : l < C → r l ≠ 0) : l = ld C r :=
  pivot_unique r (by omega) (by omega) h1 (fun t _ ht => h2 t ht) h3
theorem ld_congr {C : Nat} {r r' : Nat → UInt8} (h : ∀ t, t < C → r t = r' t) : ld C r = ld C r' := pivot_congr (by omega) (fun t _ ht => h t ht)
/-- the rows that were taken -/
structure Tk (R C : Nat) (M : Nat → Nat → UInt8) (i m : Nat) (T : Nat → Nat → UInt8) : Prop where
  le : m ≤ i
  lead : ∀ s, s < m → ld C (T s) < C
  zero : ∀ s s', s < s' → s' < m → T s' (ld C (T s)) = 0
  made : ∃ A, ∀ s j, s < m → j < C → T s j = mm R A M s j
  all : ∃ D, ∀ t j, t < i → j < C → M t j = mm m D T t j
/-- a row on its way -/
structure Rd (C : Nat) (M : Nat → Nat → UInt8) (i : Nat) (T : Nat → Nat → UInt8) (k : Nat) (r : Nat → UInt8) : Prop where
  zero : ∀ s, s < k → r (ld C (T s)) = 0
  sum_ : ∃ q : Nat → UInt8, ∀ j, j < C → r j = M i j ^^^ sum (fun s => fm (q s) (T s j)) k
theorem Tk.start (R C : Nat) (M T : Nat → Nat → UInt8) : Tk R C M 0 0 T := ⟨by omega, fun s h => by omega, fun s s' _ h => by omega, ⟨M, fun s j h => by omega⟩, ⟨M, fun t j h => by omega⟩⟩
theorem Rd.start (C : Nat) (M : Nat → Nat → UInt8) (i : Nat) (T : Nat → Nat → UInt8) : Rd C M i T 0 (M i) := ⟨fun s h => by omega, ⟨fun _ => 0, fun j _ => by show _ = _ ^^^ 0; rw [fx_zero]⟩⟩
theorem Rd.eqf {C i k : Nat} {M T : Nat → Nat → UInt8} {r r' : Nat → UInt8} (h : Rd C M i T k r) (hl : ∀ s, s < k → ld C (T s) < C) (e : ∀ j, j < C → r j = r' j) : Rd C M i T k r' :=
  ⟨fun s hs => by rw [← e _ (hl s hs)]; exact h.zero s hs, by
    obtain ⟨q, hq⟩ := h.sum_
    exact ⟨q, fun j hj => by rw [← e j hj]; exact hq j hj⟩⟩
theorem Rd.step {R C i m k : Nat} {M T : Nat → Nat → UInt8} {r : Nat → UInt8} (h : Rd C M i T k r) (ht : Tk R C M i m T) (hk : k < m) :
    Rd C M i T (k + 1) (fun j => r j ^^^ fm (fm (r (ld C (T k))) (fi (T k (ld C (T k))))) (T k j)) := by
  have hne := (ld_spec C (T k)).2.2 (ht.lead k hk)
  refine ⟨fun s hs => ?_, ?_⟩
  · by_cases e : s = k
    · subst e
      show r _ ^^^ fm (fm (r _) (fi _)) (T s _) = 0
      rw [fm_assoc, fi_fm _ hne, fm_one, fx_self]
    · show r _ ^^^ fm _ (T k _) = 0
      rw [h.zero s (by omega), ht.zero s k (by omega) hk, fm_zero, fx_self]
  · obtain ⟨q, hq⟩ := h.sum_
    refine ⟨fun s => if s = k then fm (r (ld C (T k))) (fi (T k (ld C (T k)))) else q s, fun j hj => ?_⟩
    show r j ^^^ _ = M i j ^^^ (sum _ k ^^^ _)
    rw [hq j hj, fx_assoc]
    simp only [if_true]
    congr 2
    apply sum_congr
    intro s hs
    simp only [if_neg (show s ≠ k by omega)]
theorem Tk.skip {R C i m : Nat} {M T : Nat → Nat → UInt8} {r : Nat → UInt8} (h : Tk R C M i m T) (hr : Rd C M i T m r) (h0 : ¬ ld C r < C) : Tk R C M (i + 1) m T := by
  refine ⟨by have := h.le; omega, h.lead, h.zero, h.made, ?_⟩
  obtain ⟨D, hD⟩ := h.all
  obtain ⟨q, hq⟩ := hr.sum_
  refine ⟨fun t s => if t = i then q s else D t s, fun t j ht hj => ?_⟩
  by_cases e : t = i
  · subst e
    have h1 : r j = 0 := (ld_spec C r).2.1 j (by have := (ld_spec C r).1; omega)
    have h2 := hq j hj
    rw [h1] at h2
    have h3 : M t j = sum (fun s => fm (q s) (T s j)) m := fx_cancel _ _ h2.symm
    rw [h3]
    unfold mm
    apply sum_congr
    intro s _
    simp only [if_true]
  · rw [hD t j (by omega) hj]
    unfold mm
    apply sum_congr
    intro s _
    simp only [if_neg e]
theorem Tk.take {R C i m : Nat} {M T : Nat → Nat → UInt8} {r : Nat → UInt8} (h : Tk R C M i m T) (hi : i < R) (hr : Rd C M i T m r) (h0 : ld C r < C) : Tk R C M (i + 1) (m + 1) (fun s => if s = m then r else T s) := by
  obtain ⟨A, hA⟩ := h.made
  obtain ⟨D, hD⟩ := h.all
  obtain ⟨q, hq⟩ := hr.sum_
  refine ⟨by have := h.le; omega, fun s hs => ?_, fun s s' hss hs' => ?_, ⟨fun s t => if s = m then one i t ^^^ mm m (fun _ u => q u) A 0 t else A s t, fun s j hs hj => ?_⟩, ⟨fun t s => if t = i then (if s = m then 1 else q s) else (if s = m then 0 else D t s), fun t j ht hj => ?_⟩⟩
  · by_cases e : s = m
    · simp only [e, if_true]; exact h0
    · simp only [if_neg e]; exact h.lead s (by omega)
  · have hsm : s ≠ m := by omega
    simp only [if_neg hsm]
    by_cases e : s' = m
    · simp only [e, if_true]; exact hr.zero s (by omega)
    · simp only [if_neg e]; exact h.zero s s' hss (by omega)
  · by_cases e : s = m
    · simp only [e, if_true]
      rw [hq j hj]
      unfold mm
      simp only [if_true]
      rw [sum_congr (g := fun t => fm (one i t) (M t j) ^^^ fm (sum (fun u => fm (q u) (A u t)) m) (M t j)) R (fun t _ => xor_fm _ _ _), sum_xor]
      congr 1
      · have := mm_one_left (n := R) M j hi
        exact this.symm
      · have e2 := mm_assoc m R (fun _ u => q u) A M 0 j
        unfold mm at e2
        rw [e2]
        apply sum_congr
        intro u hu
        congr 1
        exact hA u j hu hj
    · simp only [if_neg e]
      rw [hA s j (by omega) hj]
      unfold mm
      simp only [if_neg e]
  · unfold mm
    show M t j = sum _ m ^^^ _
    by_cases e : t = i
    · subst e
      simp only [if_true]
      have h1 := hq j hj
      have e2 : sum (fun u => fm (if u = m then 1 else q u) ((if u = m then r else T u) j)) m = sum (fun s => fm (q s) (T s j)) m := by
        apply sum_congr
        intro s hs
        rw [if_neg (by omega), if_neg (by omega)]
      rw [e2, one_fm, h1, fx_comm (M t j), ← fx_assoc, fx_self, zero_fx]
    · simp only [if_neg e, if_true]
      rw [zero_fm, fx_zero, hD t j (by omega) hj]
      unfold mm
      apply sum_congr
      intro s hs
      rw [if_neg (by omega), if_neg (by omega)]
theorem Tk.done {R C m : Nat} {M T : Nat → Nat → UInt8} (h : Tk R C M R m T) : m = rank R C M := by
  obtain ⟨A, hA⟩ := h.made
  obtain ⟨D, hD⟩ := h.all
  refine ranked_eq (rank_ranked R C M) (fun x hx => ?_) hA hD
  intro i
  induction i using Nat.strongRecOn with
  | ind i ih =>
    intro hi
    have h1 := hx (ld C (T i)) (h.lead i hi)
    rw [sum_one (i := i) m hi (fun t ht hne => by
      by_cases hlt : t < i
      · rw [ih t hlt ht, zero_fm]
      · rw [h.zero i t (by omega) ht, fm_zero])] at h1
    exact (fm_eq_zero _ _ h1).resolve_right ((ld_spec C (T i)).2.2 (h.lead i hi))
end Go.Proofs.Ytbokbndphpdgoaa.Lin
