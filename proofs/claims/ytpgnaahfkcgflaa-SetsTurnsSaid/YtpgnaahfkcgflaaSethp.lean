/-
  Two sets: plain laws; both, any and less of two lists, as the laws call them.
-/
import Derived.Test.YtpgnaahfkcgflaaSetav
import Derived.Test.YtpgnaahfkcgflaaSetf
import Derived.Test.YtpgnaahfkcgflaaSetz
namespace Go.Proofs.Ytpgnaahfkcgflaa
set_option linter.unusedSimpArgs false
set_option linter.unusedVariables false
open Go.RowKit

namespace Setp
def bothL (a b : List Int) : List Int := a.filter fun x => decide (x ∈ b)
def lessL (a b : List Int) : List Int := a.filter fun x => !decide (x ∈ b)
theorem mem_both (z : Int) (a b : List Int) : decide (z ∈ bothL a b) = (decide (z ∈ a) && decide (z ∈ b)) := by
  unfold bothL
  rw [← Bool.decide_and, decide_eq_decide, List.mem_filter, decide_eq_true_iff]
theorem mem_less (z : Int) (a b : List Int) : decide (z ∈ lessL a b) = (decide (z ∈ a) && !decide (z ∈ b)) := by
  unfold lessL
  by_cases h1 : z ∈ a <;> by_cases h2 : z ∈ b <;> simp [h1, h2]
theorem mem_any2 (z : Int) (a b : List Int) : decide (z ∈ merge a b) = (decide (z ∈ a) || decide (z ∈ b)) := by
  rw [← Bool.decide_or, decide_eq_decide, mem_merge]
theorem any2_eq (a b : List Int) : anyL [a, b] = merge a b := by
  unfold anyL
  simp [merge]
theorem rising_head {x : Int} {xs : List Int} (h : (x :: xs).Pairwise (· < ·)) : ∀ z ∈ xs, x < z := (List.pairwise_cons.1 h).1
theorem filter_congr' {l : List Int} {p q : Int → Bool} (h : ∀ x ∈ l, p x = q x) : l.filter p = l.filter q := List.filter_congr h
theorem both_any_len : ∀ xs ys : List Int, xs.Pairwise (· < ·) → ys.Pairwise (· < ·) → (bothL xs ys).length + (merge xs ys).length = xs.length + ys.length
  | [], ys, _, _ => by simp [merge, bothL]
  | x :: xs, [], _, _ => by simp [merge, bothL]
  | x :: xs, y :: ys, hx, hy => by
    have hxs := (List.pairwise_cons.1 hx).2
    have hys := (List.pairwise_cons.1 hy).2
    have hx1 := rising_head hx
    have hy1 := rising_head hy
    rw [merge]
    by_cases h1 : x < y
    · rw [if_pos h1]
      have ih := both_any_len xs (y :: ys) hxs hy
      have hn : x ∉ y :: ys := fun hm => by
        rcases List.mem_cons.1 hm with e | e
        · omega
        · have := hy1 _ e; omega
      have e : bothL (x :: xs) (y :: ys) = bothL xs (y :: ys) := by
        unfold bothL
        rw [List.filter_cons_of_neg (by simpa using hn)]
      rw [e, List.length_cons, List.length_cons]
      omega
    · rw [if_neg h1]
      by_cases h2 : y < x
      · rw [if_pos h2]
        have ih := both_any_len (x :: xs) ys hx hys
        have e : bothL (x :: xs) (y :: ys) = bothL (x :: xs) ys := by
          unfold bothL
          apply filter_congr'
          intro z hz
          have : z ≠ y := by
            rcases List.mem_cons.1 hz with e | e
            · omega
            · have := hx1 _ e; omega
          simp [this]
        rw [e, List.length_cons]
        simp only [List.length_cons] at ih ⊢
        omega
      · rw [if_neg h2]
        have e0 : x = y := by omega
        subst e0
        have ih := both_any_len xs ys hxs hys
        have e : bothL (x :: xs) (x :: ys) = x :: bothL xs ys := by
          unfold bothL
          rw [List.filter_cons_of_pos (by simp)]
          congr 1
          apply filter_congr'
          intro z hz
          have : z ≠ x := by have := hx1 _ hz; omega
          simp [this]
        rw [e]
        simp only [List.length_cons]
        omega
termination_by xs ys => xs.length + ys.length
theorem may_both {a b : List Int} (h : may a = true) : may (bothL a b) = true := may_filter h _
theorem may_less {a b : List Int} (h : may a = true) : may (lessL a b) = true := may_filter h _
theorem both_comm {a b : List Int} (ha : may a = true) (hb : may b = true) : bothL a b = bothL b a :=
  set_ext (may_both ha) (may_both hb) fun z => by
    unfold bothL
    simp only [List.mem_filter, decide_eq_true_eq]
    exact And.comm
theorem any_comm {a b : List Int} (ha : may a = true) (hb : may b = true) : merge a b = merge b a :=
  set_ext (may_merge ha hb) (may_merge hb ha) fun z => by rw [mem_merge, mem_merge]; exact Or.comm
theorem rest_both {a b : List Int} (m : Nat) : up (bothL a b) m = merge (up a m) (up b m) :=
  set_ext (may_up _ _) (may_merge (may_up _ _) (may_up _ _)) fun z => by
    rw [mem_merge, mem_up, mem_up, mem_up]
    unfold bothL
    simp only [List.mem_filter, decide_eq_true_eq]
    by_cases h1 : z ∈ a <;> by_cases h2 : z ∈ b <;> simp [h1, h2]
theorem both_rest {a b : List Int} {m : Nat} (ha : may a = true) (hm : ∀ x ∈ a, x < (m : Int)) : bothL a (up b m) = lessL a b := by
  unfold bothL lessL
  apply filter_congr'
  intro z hz
  have h0 := ((may_iff a).1 ha).1 z hz
  have h1 := hm z hz
  by_cases h2 : z ∈ b <;> simp [mem_up, h0, h1, h2]
end Setp

/-- a list's variable that reads -/
structure Ls (W : World) (A : Option Addr) (n c : Nat) (xs : List Int) : Prop where
  rd : Reads W W.heap.size 1 A n (xs.map I64)
  le : n ≤ c
  mx : c ≤ maxLen
theorem Ls.mono {W W' : World} {A : Option Addr} {n c : Nat} {xs : List Int} (h : Ls W A n c xs) (hB : Below W.heap.size W W') : Ls W' A n c xs := ⟨(h.rd.below hB).more hB.size, h.le, h.mx⟩
theorem Ls.dr {W W' : World} {A : Option Addr} {n c : Nat} {xs : List Int} (h : Ls W A n c xs) (hB : Dr W W') : Ls W' A n c xs := h.mono (hB.below _)
theorem Ls.alloc {W : World} {A : Option Addr} {n c : Nat} {xs : List Int} (h : Ls W A n c xs) (o : Obj) : Ls (W.alloc o) A n c xs := h.mono ((Below.refl _ _).alloc (Nat.le_refl _) o)
theorem Ls.len {W : World} {A : Option Addr} {n c : Nat} {xs : List Int} (h : Ls W A n c xs) : xs.length = n := by have := h.rd.1; simpa using this
theorem Ls.own {w W : World} {A : Option Addr} {n c : Nat} {xs : List Int} (h : Fresh w W 3 A n c (xs.map I64)) : Ls W A n c xs := ⟨h.reads, (own_cap h.1).1, (own_cap h.1).2⟩
theorem SlErrI.boxed {W : World} {o : Obj} {r : List Int} {er : Int} {e : Ending} {w' : World} (h : SlErrI (W.alloc o) r er e w') : SlErrI W r er e w' := by
  obtain ⟨A, c, he, ho, hB⟩ := h
  exact ⟨A, c, he, own_base ho (by simp), ((Below.refl _ _).alloc (Nat.le_refl _) _).trans (hB.mono (by simp))⟩
theorem lists2 {W : World} {A A' : Option Addr} {n c n' c' : Nat} {a b : List Int} (h : Ls W A n c a) (h' : Ls W A' n' c' b) :
    RowsI (W.alloc (.cells #[.slice A n c, .slice A' n' c'] 25)) (W.alloc (.cells #[.slice A n c, .slice A' n' c'] 25)).heap.size (some ⟨W.heap.size, 0, none⟩) 2 [a, b] := by
  have := rowsI_new (w := W) (B := W.heap.size) 25 [.slice A n c, .slice A' n' c'] [a, b] (Nat.le_refl _) rfl (fun i xs hi => by
    match i, hi with
    | 0, hi =>
      simp only [List.getElem?_cons_zero, Option.some.injEq] at hi
      subst hi
      exact ⟨A, n, c, rfl, h.le, h.mx, h.rd⟩
    | 1, hi =>
      simp only [List.getElem?_cons_succ, List.getElem?_cons_zero, Option.some.injEq] at hi
      subst hi
      exact ⟨A', n', c', rfl, h'.le, h'.mx, h'.rd⟩)
  simpa using this
theorem lists1 {W : World} {A' : Option Addr} {n' c' : Nat} {b : List Int} (h' : Ls W A' n' c' b) :
    RowsI (W.alloc (.cells #[.slice A' n' c'] 25)) (W.alloc (.cells #[.slice A' n' c'] 25)).heap.size (some ⟨W.heap.size, 0, none⟩) 1 [b] := by
  have := rowsI_new (w := W) (B := W.heap.size) 25 [.slice A' n' c'] [b] (Nat.le_refl _) rfl (fun i xs hi => by
    match i, hi with
    | 0, hi =>
      simp only [List.getElem?_cons_zero, Option.some.injEq] at hi
      subst hi
      exact ⟨A', n', c', rfl, h'.le, h'.mx, h'.rd⟩)
  simpa using this
theorem short2 {a b : List Int} (ha : a.length ≤ 30000) (hb : b.length ≤ 30000) : Short [a, b] := by
  intro xs hx
  simp at hx
  rcases hx with rfl | rfl <;> omega
theorem both2 {W : World} {A A' : Option Addr} {n c n' c' : Nat} {a b : List Int} (h : Ls W A n c a) (h' : Ls W A' n' c' b) (hn : n ≤ 30000) (hn' : n' ≤ 30000) (ha : Setp.may a = true) (hb : Setp.may b = true) :
    Calls Try.prog 12 #[.slice (some ⟨W.heap.size, 0, none⟩) 2 2] (W.alloc (.cells #[.slice A n c, .slice A' n' c'] 25)) (SlErrI W (Setp.bothL a b) 0) := by
  have hl := h.len
  have hl' := h'.len
  have := both_in (some ⟨W.heap.size, 0, none⟩) 2 2 [a, b] (W.alloc (.cells #[.slice A n c, .slice A' n' c'] 25)) (lists2 h h') (by omega) (by omega) (short2 (by omega) (by omega)) (by simp [allSets, ha, hb])
  have e : (([a, b] : List (List Int)).headD []).filter (inAll (([a, b] : List (List Int)).drop 1)) = Setp.bothL a b := by
    unfold Setp.bothL
    show List.filter (inAll [b]) a = _
    exact Setp.filter_congr' fun z _ => by simp [inAll]
  rw [e] at this
  exact this.mono fun e w' hr => hr.boxed
theorem any2 {W : World} {A A' : Option Addr} {n c n' c' : Nat} {a b : List Int} (h : Ls W A n c a) (h' : Ls W A' n' c' b) (hn : n ≤ 30000) (hn' : n' ≤ 30000) (ha : Setp.may a = true) (hb : Setp.may b = true) :
    Calls Try.prog 23 #[.slice (some ⟨W.heap.size, 0, none⟩) 2 2] (W.alloc (.cells #[.slice A n c, .slice A' n' c'] 25)) (SlErrI W (Setp.merge a b) 0) := by
  have hl := h.len
  have hl' := h'.len
  have := any_in (some ⟨W.heap.size, 0, none⟩) 2 2 [a, b] (W.alloc (.cells #[.slice A n c, .slice A' n' c'] 25)) (lists2 h h') (by simp) (short2 (by omega) (by omega)) (by simp [Setp.total]; omega) (by simp [allSets, ha, hb]) (by omega)
  rw [Setp.any2_eq] at this
  exact this.mono fun e w' hr => hr.boxed
theorem less2 {W : World} {A A' : Option Addr} {n c n' c' : Nat} {a b : List Int} (h : Ls W A n c a) (h' : Ls W A' n' c' b) (hn : n ≤ 30000) (hn' : n' ≤ 30000) (ha : Setp.may a = true) (hb : Setp.may b = true) :
    Calls Try.prog 21 #[.slice A n c, .slice (some ⟨W.heap.size, 0, none⟩) 1 1] (W.alloc (.cells #[.slice A' n' c'] 25)) (SlErrI W (Setp.lessL a b) 0) := by
  have hl := h.len
  have hl' := h'.len
  have := less_in (some ⟨W.heap.size, 0, none⟩) A 1 1 n c a [b] (W.alloc (.cells #[.slice A' n' c'] 25)) (lists1 h') (by omega) (fun xs hx => by simp at hx; subst hx; omega) (by simp [allSets, hb]) (h.alloc _).rd (by omega) ha
  have e : a.filter (fun x => !inAny [b] x) = Setp.lessL a b := by
    unfold Setp.lessL
    exact Setp.filter_congr' fun z _ => by simp [inAny]
  rw [e] at this
  exact this.mono fun e w' hr => hr.boxed
end Go.Proofs.Ytpgnaahfkcgflaa
