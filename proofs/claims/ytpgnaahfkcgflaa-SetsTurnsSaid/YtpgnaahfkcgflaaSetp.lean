/-
  Sets as rising lists: plain laws. No program is in sight here.
-/
import Derived.KernelRfl
namespace Go.Proofs.Ytpgnaahfkcgflaa
namespace Setp
/-- rising, all above was -/
def mayGo : Int → List Int → Bool
  | _, [] => true
  | was, x :: r => decide (was < x) && mayGo x r
def may (l : List Int) : Bool := mayGo (-1) l
/-- how many at the head are below x -/
def low (x : Int) : List Int → Nat
  | [] => 0
  | y :: r => if y < x then low x r + 1 else 0
theorem low_le (x : Int) : ∀ l, low x l ≤ l.length
  | [] => Nat.le_refl 0
  | y :: r => by
    unfold low
    split
    · have := low_le x r; simp only [List.length_cons]; omega
    · omega
theorem low_lt (x : Int) : ∀ (l : List Int) (j : Nat) (h : j < l.length), j < low x l → l[j] < x
  | y :: r, 0, _, hj => by
    unfold low at hj
    split at hj
    · assumption
    · omega
  | y :: r, j+1, h, hj => by
    unfold low at hj
    split at hj
    · exact low_lt x r j (by simpa using h) (by omega)
    · omega
theorem low_ge (x : Int) : ∀ (l : List Int) (h : low x l < l.length), x ≤ l[low x l]
  | y :: r, h => by
    by_cases hy : y < x
    · have e : low x (y :: r) = low x r + 1 := by
        show (if y < x then low x r + 1 else 0) = _
        rw [if_pos hy]
      have h2 : low x r < r.length := by rw [e] at h; simpa using h
      have := low_ge x r h2
      simpa [e] using this
    · have e : low x (y :: r) = 0 := by
        show (if y < x then low x r + 1 else 0) = _
        rw [if_neg hy]
      simp only [e, List.getElem_cons_zero]; omega
theorem low_unique (x : Int) (l : List Int) (i : Nat) (hi : i ≤ l.length) (h1 : ∀ j (h : j < l.length), j < i → l[j] < x) (h2 : ∀ h : i < l.length, x ≤ l[i]) : i = low x l := by
  rcases Nat.lt_trichotomy i (low x l) with h | h | h
  · have hl := low_le x l
    have a := low_lt x l i (by omega) h
    have b := h2 (by omega)
    omega
  · exact h
  · have a := low_ge x l (by omega)
    have b := h1 (low x l) (by omega) h
    omega
theorem mayGo_lt : ∀ (was : Int) (l : List Int), mayGo was l = true → (∀ j (h : j < l.length), was < l[j]) ∧ (∀ i j (hj : j < l.length) (hij : i < j), l[i] < l[j])
  | _, [], _ => ⟨fun j h => by simp at h, fun i j hj _ => by simp at hj⟩
  | was, x :: r, h => by
    unfold mayGo at h
    simp only [Bool.and_eq_true, decide_eq_true_eq] at h
    obtain ⟨h1, h2⟩ := h
    obtain ⟨g1, g2⟩ := mayGo_lt x r h2
    refine ⟨fun j hj => ?_, fun i j hj hij => ?_⟩
    · cases j with
      | zero => exact h1
      | succ j =>
        have := g1 j (by simpa using hj)
        simp only [List.getElem_cons_succ]; omega
    · cases j with
      | zero => omega
      | succ j =>
        cases i with
        | zero => simp only [List.getElem_cons_succ, List.getElem_cons_zero]; exact g1 j (by simpa using hj)
        | succ i => simp only [List.getElem_cons_succ]; exact g2 i j (by simpa using hj) (by omega)
theorem may_rising {l : List Int} (h : may l = true) : ∀ i j (hj : j < l.length) (hij : i < j), l[i] < l[j] := (mayGo_lt (-1) l h).2
theorem may_pos {l : List Int} (h : may l = true) : ∀ j (h : j < l.length), 0 ≤ l[j] := fun j hj => by have := (mayGo_lt (-1) l h).1 j hj; omega
end Setp
end Go.Proofs.Ytpgnaahfkcgflaa
