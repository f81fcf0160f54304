/-
  Rising lists, plain: the same members, the same list; filters and rests are sets.
-/
import Derived.Test.YtpgnaahfkcgflaaSetx
namespace Go.Proofs.Ytpgnaahfkcgflaa
set_option linter.unusedSimpArgs false
set_option linter.unusedVariables false
namespace Setp
theorem mayGo_iff : ∀ (was : Int) (l : List Int), mayGo was l = true ↔ (∀ x ∈ l, was < x) ∧ l.Pairwise (· < ·)
  | was, [] => by simp [mayGo]
  | was, x :: r => by
    simp only [mayGo, Bool.and_eq_true, decide_eq_true_eq, mayGo_iff x r, List.mem_cons, List.pairwise_cons]
    constructor
    · rintro ⟨h1, h2, h3⟩
      exact ⟨fun y hy => by rcases hy with rfl | hy; exact h1; have := h2 y hy; omega, h2, h3⟩
    · rintro ⟨h1, h2, h3⟩
      exact ⟨h1 x (.inl rfl), h2, h3⟩
theorem may_iff (l : List Int) : may l = true ↔ (∀ x ∈ l, 0 ≤ x) ∧ l.Pairwise (· < ·) := by
  unfold may
  rw [mayGo_iff]
  constructor
  · exact fun ⟨h1, h2⟩ => ⟨fun x hx => by have := h1 x hx; omega, h2⟩
  · exact fun ⟨h1, h2⟩ => ⟨fun x hx => by have := h1 x hx; omega, h2⟩
theorem rising_ext : ∀ (xs ys : List Int), xs.Pairwise (· < ·) → ys.Pairwise (· < ·) → (∀ x, x ∈ xs ↔ x ∈ ys) → xs = ys
  | [], [], _, _, _ => rfl
  | [], y :: ys, _, _, h => by have := (h y).2 (List.mem_cons_self ..); cases this
  | x :: xs, [], _, _, h => by have := (h x).1 (List.mem_cons_self ..); cases this
  | x :: xs, y :: ys, hx, hy, h => by
    rw [List.pairwise_cons] at hx hy
    have e : x = y := by
      have h1 := (h x).1 (List.mem_cons_self ..)
      have h2 := (h y).2 (List.mem_cons_self ..)
      rcases List.mem_cons.1 h1 with h1 | h1
      · exact h1
      · rcases List.mem_cons.1 h2 with h2 | h2
        · exact h2.symm
        · have := hy.1 x h1
          have := hx.1 y h2
          omega
    subst e
    congr 1
    refine rising_ext xs ys hx.2 hy.2 fun z => ?_
    constructor
    · intro hz
      have h1 := (h z).1 (List.mem_cons_of_mem _ hz)
      rcases List.mem_cons.1 h1 with h1 | h1
      · have := hx.1 z hz; omega
      · exact h1
    · intro hz
      have h1 := (h z).2 (List.mem_cons_of_mem _ hz)
      rcases List.mem_cons.1 h1 with h1 | h1
      · have := hy.1 z hz; omega
      · exact h1
theorem set_ext {xs ys : List Int} (hx : may xs = true) (hy : may ys = true) (h : ∀ x, x ∈ xs ↔ x ∈ ys) : xs = ys := rising_ext xs ys ((may_iff xs).1 hx).2 ((may_iff ys).1 hy).2 h
theorem may_filter {xs : List Int} (h : may xs = true) (p : Int → Bool) : may (xs.filter p) = true := by
  rw [may_iff] at h ⊢
  exact ⟨fun x hx => h.1 x (List.mem_filter.1 hx).1, h.2.filter p⟩
theorem may_up (l : List Int) (m : Nat) : may (up l m) = true := by
  rw [may_iff]
  refine ⟨fun x hx => ((mem_up l x m).1 hx).1, ?_⟩
  induction m with
  | zero => exact List.Pairwise.nil
  | succ m ih =>
    unfold up
    split
    · exact ih
    · rw [List.pairwise_append]
      exact ⟨ih, List.pairwise_singleton _ _, fun x hx y hy => by
        rw [List.mem_singleton] at hy
        have := ((mem_up l x m).1 hx).2.1
        omega⟩
theorem up_up {l : List Int} {b : Nat} (h : may l = true) (hb : ∀ x ∈ l, x < (b : Int)) : up (up l b) b = l := by
  refine set_ext (may_up _ _) h fun x => ?_
  rw [mem_up, mem_up]
  constructor
  · rintro ⟨h1, h2, h3⟩
    exact Classical.byContradiction fun hn => h3 ⟨h1, h2, hn⟩
  · intro hx
    exact ⟨((may_iff l).1 h).1 x hx, hb x hx, fun h3 => h3.2.2 hx⟩
end Setp
end Go.Proofs.Ytpgnaahfkcgflaa
