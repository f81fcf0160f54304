/-
  A law's arguments of ints (slices, slices of slices), opened.
-/
import Derived.Test.YtbokbndphpdgoaaOp
namespace Go.Proofs.Ytbokbndphpdgoaa
open Go.ChangeShapes Go.WideShapes Go.ChangeAt Go.RowKit

section
variable {H : Type} {enc : TypeId × Value → H} {P : Program} {w : World}
/-- a slice of ints that came in -/
theorem open_i64s {t e : TypeId} {r : Reach} {b0 : Nat} {v : Value} {d : DataW H} {p : List MemPlace} (ht : P.underlying t = some (.slice e)) (he : P.underlying e = some (.int .i64)) (hc : P.cellsOf e = 1)
    (hv : Value.okWide P w r b0 t v) (h : DataW.Trod enc P w 0 (fun _ => true) true t v d p) :
    ∃ (A : Option Addr) (n c : Nat) (xs : List Int), v = .slice A n c ∧ n ≤ c ∧ c ≤ maxLen ∧ (Reads w w.heap.size 1 A n (xs.map I64) ∧ ∀ x ∈ xs, (Lit.int .i64 x).wf = true) := by
  obtain ⟨A, n, c, rfl⟩ := okWide_slice ht hv
  obtain ⟨fuel, hf⟩ := h
  rcases open_ints ht he hc hf with ⟨hcs, _⟩ | ⟨x, l, c', zs, hcs, _, hl, hm, hz, _, hcell, hwz⟩
  · simp [Value.cells] at hcs
    obtain ⟨rfl, rfl, rfl⟩ := hcs
    exact ⟨none, 0, 0, [], rfl, Nat.le_refl _, by simp, Reads.none_, fun x hx => by cases hx⟩
  · simp [Value.cells] at hcs
    obtain ⟨rfl, rfl, rfl⟩ := hcs
    have hz' : zs.length = c := by simpa using hz
    refine ⟨some x, n, c, zs.take n, rfl, hl, hm, ⟨by simp [hz', hl], fun hn => ?_⟩, fun y hy => hwz y (List.mem_of_mem_take hy)⟩
    have h0 := hcell 0 (by omega)
    refine ⟨x, rfl, by have := lt_of_cell h0; rwa [block_of_add] at this, fun j u hu => ?_⟩
    rw [List.getElem?_map, List.getElem?_take] at hu
    by_cases hj : j < n
    · rw [if_pos hj, List.getElem?_eq_getElem (by omega)] at hu
      simp only [Option.map_some, Option.some.injEq] at hu
      rw [hcell j (by omega), ← hu]
      simp only [List.getD_eq_getElem?_getD, List.getElem?_eq_getElem (show j < zs.length by omega), Option.getD_some, I64]
    · rw [if_neg hj] at hu; cases hu

/-- a slice of slices of ints, read -/
def RowsI (w : World) (B : Nat) (A : Option Addr) (n : Nat) (xss : List (List Int)) : Prop :=
  ∃ vs : List Value, Reads w B 1 A n vs ∧ xss.length = n ∧ ∀ (i : Nat) (xs : List Int), xss[i]? = some xs → ∃ (Ai : Option Addr) (ni ci : Nat), vs[i]? = some (.slice Ai ni ci) ∧ ni ≤ ci ∧ ci ≤ maxLen ∧ Reads w B 1 Ai ni (xs.map I64)
theorem open_rowsI {t e q : TypeId} {r : Reach} {b0 : Nat} {v : Value} {d : DataW H} {p : List MemPlace} (ht : P.underlying t = some (.slice e)) (he : P.underlying e = some (.slice q)) (hq : P.underlying q = some (.int .i64)) (ce : P.cellsOf e = 1) (cq : P.cellsOf q = 1)
    (hv : Value.okWide P w r b0 t v) (h : DataW.Trod enc P w 0 (fun _ => true) true t v d p) :
    ∃ (A : Option Addr) (n c : Nat) (xss : List (List Int)), v = .slice A n c ∧ n ≤ c ∧ c ≤ maxLen ∧ (RowsI w w.heap.size A n xss ∧ ∀ xs ∈ xss, ∀ x ∈ xs, (Lit.int .i64 x).wf = true) := by
  obtain ⟨A, n, c, rfl⟩ := okWide_slice ht hv
  obtain ⟨fuel, hf⟩ := h
  rcases Go.Deep.open_int_rows ht he hq ce cq hf with ⟨hcs, _⟩ | ⟨x, l, c', Ar, Lr, Cr, Z, hcs, _, hl, hm, _, hrow⟩
  · simp [Value.cells] at hcs
    obtain ⟨rfl, rfl, rfl⟩ := hcs
    exact ⟨none, 0, 0, [], rfl, Nat.le_refl _, by simp, ⟨[], Reads.none_, rfl, fun i xs h => by simp at h⟩, fun x hx => by cases hx⟩
  · simp [Value.cells] at hcs
    obtain ⟨rfl, rfl, rfl⟩ := hcs
    refine ⟨some x, n, c, (List.range n).map (fun i => (Z i).take (Lr i)), rfl, hl, hm,
      ⟨(List.range n).map (fun i => Value.slice (Ar i) (Lr i) (Cr i)), ⟨by simp, fun hn => ?_⟩, by simp, fun i xs hi => ?_⟩, fun xs hxs y hy => ?_⟩
    · obtain ⟨h0, _⟩ := hrow 0 (by omega)
      refine ⟨x, rfl, by have := lt_of_cell h0; rwa [block_of_add] at this, fun j u hu => ?_⟩
      rw [List.getElem?_map] at hu
      by_cases hj : j < n
      · rw [List.getElem?_range hj] at hu
        simp only [Option.map_some, Option.some.injEq] at hu
        subst hu
        exact (hrow j (by omega)).1
      · rw [List.getElem?_eq_none (by simp; omega)] at hu; cases hu
    · have hin : i < n := by
        have := (List.getElem?_eq_some_iff.1 hi).1
        simpa using this
      rw [List.getElem?_map, List.getElem?_range hin] at hi
      simp only [Option.map_some, Option.some.injEq] at hi
      subst hi
      obtain ⟨_, hL, hC, hZ, hwz, hA0, hA1⟩ := hrow i (by omega)
      refine ⟨Ar i, Lr i, Cr i, by rw [List.getElem?_map, List.getElem?_range hin]; rfl, hL, hC, by simp [hZ, hL], fun hn => ?_⟩
      cases hAi : Ar i with
      | none => have := hA0 hAi; omega
      | some a' =>
        obtain ⟨_, hc⟩ := hA1 a' hAi
        have h0 := hc 0 (by omega)
        refine ⟨a', rfl, by have := lt_of_cell h0; rwa [block_of_add] at this, fun j u hu => ?_⟩
        rw [List.getElem?_map, List.getElem?_take] at hu
        by_cases hj : j < Lr i
        · rw [if_pos hj, List.getElem?_eq_getElem (by omega)] at hu
          simp only [Option.map_some, Option.some.injEq] at hu
          rw [hc j (by omega), ← hu]
          simp only [List.getD_eq_getElem?_getD, List.getElem?_eq_getElem (show j < (Z i).length by omega), Option.getD_some, I64]
        · rw [if_neg hj] at hu; cases hu
    · obtain ⟨i, hi, rfl⟩ := List.mem_map.1 hxs
      obtain ⟨_, _, _, _, hwz, _, _⟩ := hrow i (by have := List.mem_range.1 hi; omega)
      exact hwz y (List.mem_of_mem_take hy)
end
end Go.Proofs.Ytbokbndphpdgoaa
