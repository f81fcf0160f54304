/-
  What one or more lists have, plain: merging, putting in; and the document's put and Any walked.
-/
import Derived.Test.YtpgnaahfkcgflaaSetf
namespace Go.Proofs.Ytpgnaahfkcgflaa
set_option linter.unusedSimpArgs false
set_option linter.unusedVariables false
open Go.RowKit

namespace Setp
/-- two sets merged -/
def merge : List Int → List Int → List Int
  | [], ys => ys
  | x :: xs, [] => x :: xs
  | x :: xs, y :: ys => if x < y then x :: merge xs (y :: ys) else if y < x then y :: merge (x :: xs) ys else x :: merge xs ys
termination_by xs ys => xs.length + ys.length
theorem mem_merge (z : Int) : ∀ xs ys, z ∈ merge xs ys ↔ z ∈ xs ∨ z ∈ ys
  | [], ys => by simp [merge]
  | x :: xs, [] => by simp [merge]
  | x :: xs, y :: ys => by
    rw [merge]
    split
    · rw [List.mem_cons, mem_merge z xs (y :: ys), List.mem_cons (l := xs)]
      constructor
      · rintro (h | h | h)
        · exact .inl (.inl h)
        · exact .inl (.inr h)
        · exact .inr h
      · rintro ((h | h) | h)
        · exact .inl h
        · exact .inr (.inl h)
        · exact .inr (.inr h)
    · split
      · rw [List.mem_cons, mem_merge z (x :: xs) ys, List.mem_cons (l := ys)]
        constructor
        · rintro (h | h | h)
          · exact .inr (.inl h)
          · exact .inl h
          · exact .inr (.inr h)
        · rintro (h | h | h)
          · exact .inr (.inl h)
          · exact .inl h
          · exact .inr (.inr h)
      · have e : x = y := by omega
        subst e
        rw [List.mem_cons, mem_merge z xs ys, List.mem_cons, List.mem_cons]
        constructor
        · rintro (h | h | h)
          · exact .inl (.inl h)
          · exact .inl (.inr h)
          · exact .inr (.inr h)
        · rintro ((h | h) | (h | h))
          · exact .inl h
          · exact .inr (.inl h)
          · exact .inl h
          · exact .inr (.inr h)
termination_by xs ys => xs.length + ys.length
theorem rising_merge : ∀ xs ys : List Int, xs.Pairwise (· < ·) → ys.Pairwise (· < ·) → (merge xs ys).Pairwise (· < ·)
  | [], ys, _, h => by simpa [merge] using h
  | x :: xs, [], h, _ => by simpa [merge] using h
  | x :: xs, y :: ys, hx, hy => by
    rw [merge]
    have hx' := List.pairwise_cons.1 hx
    have hy' := List.pairwise_cons.1 hy
    split
    · rename_i h
      rw [List.pairwise_cons]
      refine ⟨fun z hz => ?_, rising_merge xs (y :: ys) hx'.2 hy⟩
      rcases (mem_merge z xs (y :: ys)).1 hz with h1 | h1
      · exact hx'.1 z h1
      · rcases List.mem_cons.1 h1 with h2 | h2
        · omega
        · have := hy'.1 z h2; omega
    · split
      · rename_i h
        rw [List.pairwise_cons]
        refine ⟨fun z hz => ?_, rising_merge (x :: xs) ys hx hy'.2⟩
        rcases (mem_merge z (x :: xs) ys).1 hz with h1 | h1
        · rcases List.mem_cons.1 h1 with h2 | h2
          · omega
          · have := hx'.1 z h2; omega
        · exact hy'.1 z h1
      · rw [List.pairwise_cons]
        refine ⟨fun z hz => ?_, rising_merge xs ys hx'.2 hy'.2⟩
        rcases (mem_merge z xs ys).1 hz with h1 | h1
        · exact hx'.1 z h1
        · have := hy'.1 z h1; omega
termination_by xs ys => xs.length + ys.length
theorem may_merge {xs ys : List Int} (hx : may xs = true) (hy : may ys = true) : may (merge xs ys) = true := by
  rw [may_iff] at hx hy ⊢
  exact ⟨fun z hz => ((mem_merge z xs ys).1 hz).elim (hx.1 z) (hy.1 z), rising_merge xs ys hx.2 hy.2⟩
theorem len_merge : ∀ xs ys : List Int, (merge xs ys).length ≤ xs.length + ys.length
  | [], ys => by simp [merge]
  | x :: xs, [] => by simp [merge]
  | x :: xs, y :: ys => by
    rw [merge]
    split
    · have := len_merge xs (y :: ys); simp only [List.length_cons] at this ⊢; omega
    · split
      · have := len_merge (x :: xs) ys; simp only [List.length_cons] at this ⊢; omega
      · have := len_merge xs ys; simp only [List.length_cons] at this ⊢; omega
termination_by xs ys => xs.length + ys.length
/-- a number put into a set -/
def ins (l : List Int) (x : Int) : List Int := merge l [x]
/-- what one or more have -/
def anyL (xss : List (List Int)) : List Int := xss.foldl merge []
theorem foldl_mem (z : Int) : ∀ (xss : List (List Int)) (u : List Int), z ∈ xss.foldl merge u ↔ z ∈ u ∨ ∃ l ∈ xss, z ∈ l
  | [], u => by simp
  | l :: t, u => by
    rw [List.foldl_cons, foldl_mem z t, mem_merge]
    constructor
    · rintro ((h | h) | ⟨l', h1, h2⟩)
      · exact .inl h
      · exact .inr ⟨l, List.mem_cons_self .., h⟩
      · exact .inr ⟨l', List.mem_cons_of_mem _ h1, h2⟩
    · rintro (h | ⟨l', h1, h2⟩)
      · exact .inl (.inl h)
      · rcases List.mem_cons.1 h1 with e | h1
        · subst e; exact .inl (.inr h2)
        · exact .inr ⟨l', h1, h2⟩
theorem foldl_may : ∀ (xss : List (List Int)) (u : List Int), may u = true → (∀ l ∈ xss, may l = true) → may (xss.foldl merge u) = true
  | [], u, h, _ => h
  | l :: t, u, h, hl => by
    rw [List.foldl_cons]
    exact foldl_may t _ (may_merge h (hl l (List.mem_cons_self ..))) (fun l' h' => hl l' (List.mem_cons_of_mem _ h'))
theorem foldl_len (b : Nat) : ∀ (xss : List (List Int)) (u : List Int), (∀ l ∈ xss, l.length ≤ b) → (xss.foldl merge u).length ≤ u.length + xss.length * b
  | [], u, _ => by simp
  | l :: t, u, h => by
    rw [List.foldl_cons]
    have h1 := foldl_len b t (merge u l) (fun l' h' => h l' (List.mem_cons_of_mem _ h'))
    have h2 := len_merge u l
    have h3 := h l (List.mem_cons_self ..)
    rw [List.length_cons, Nat.succ_mul]; omega
theorem mem_anyL (z : Int) (xss : List (List Int)) : z ∈ anyL xss ↔ ∃ l ∈ xss, z ∈ l := by
  unfold anyL
  rw [foldl_mem]; simp
theorem may_anyL {xss : List (List Int)} (h : ∀ l ∈ xss, may l = true) : may (anyL xss) = true := foldl_may xss [] rfl h
/-- a set that has what one or more have is what they have -/
theorem anyL_eq {xss : List (List Int)} {r : List Int} (h : ∀ l ∈ xss, may l = true) (hr : may r = true) (hm : ∀ z, z ∈ r ↔ ∃ l ∈ xss, z ∈ l) : r = anyL xss :=
  set_ext hr (may_anyL h) (fun z => (hm z).trans (mem_anyL z xss).symm)
/-- putting in: the head that is below stays -/
theorem ins_below : ∀ (l r : List Int) (x : Int), (∀ y ∈ l, y < x) → ins (l ++ r) x = l ++ ins r x
  | [], r, x, _ => rfl
  | y :: l, r, x, h => by
    have hy := h y (List.mem_cons_self ..)
    show merge (y :: (l ++ r)) [x] = _
    rw [merge, if_pos hy]
    show y :: ins (l ++ r) x = _
    rw [ins_below l r x (fun z hz => h z (List.mem_cons_of_mem _ hz))]; rfl
theorem ins_nil (x : Int) : ins [] x = [x] := by simp [ins, merge]
theorem ins_above (y x : Int) (r : List Int) (h : x < y) : ins (y :: r) x = x :: y :: r := by
  unfold ins
  rw [merge, if_neg (by omega), if_pos h]
  simp [merge]
theorem ins_same (x : Int) (r : List Int) : ins (x :: r) x = x :: r := by
  unfold ins
  rw [merge, if_neg (by omega), if_neg (by omega)]
  cases r <;> simp [merge]
end Setp
end Go.Proofs.Ytpgnaahfkcgflaa
