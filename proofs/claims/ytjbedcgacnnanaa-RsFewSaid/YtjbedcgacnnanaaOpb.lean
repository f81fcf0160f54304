/-
  A law's argument of bools (a slice), opened.
-/
import Derived.Test.YtjbedcgacnnanaaOp
import Derived.Deep.Grids
namespace Go.Proofs.Ytjbedcgacnnanaa
open Go.ChangeShapes Go.WideShapes Go.ChangeAt Go.RowKit

section
variable {H : Type} {enc : TypeId × Value → H} {P : Program} {w : World}
/-- a slice of bools that came in -/
theorem open_flags {t e : TypeId} {r : Reach} {b0 : Nat} {v : Value} {d : DataW H} {p : List MemPlace} (ht : P.underlying t = some (.slice e)) (he : P.underlying e = some .bool) (hc : P.cellsOf e = 1)
    (hv : Value.okWide P w r b0 t v) (h : DataW.Trod enc P w 0 (fun _ => true) true t v d p) :
    ∃ (A : Option Addr) (n c : Nat) (gs : List Bool), v = .slice A n c ∧ n ≤ c ∧ c ≤ maxLen ∧ Reads w w.heap.size 1 A n (gs.map Value.bool) := by
  obtain ⟨A, n, c, rfl⟩ := okWide_slice ht hv
  obtain ⟨fuel, hf⟩ := h
  rcases Go.Deep.open_bools ht he hc hf with ⟨hcs, _⟩ | ⟨x, l, c', B, hcs, _, hl, hm, _, hcell⟩
  · simp [Value.cells] at hcs
    obtain ⟨rfl, rfl, rfl⟩ := hcs
    exact ⟨none, 0, 0, [], rfl, Nat.le_refl _, by simp, Reads.none_⟩
  · simp [Value.cells] at hcs
    obtain ⟨rfl, rfl, rfl⟩ := hcs
    refine ⟨some x, n, c, (List.range n).map B, rfl, hl, hm, by simp, fun hn => ?_⟩
    have h0 := hcell 0 (by omega)
    refine ⟨x, rfl, by have := lt_of_cell h0; rwa [block_of_add] at this, fun j u hu => ?_⟩
    rw [List.getElem?_map, List.getElem?_map] at hu
    by_cases hj : j < n
    · rw [List.getElem?_range hj] at hu
      simp only [Option.map_some, Option.some.injEq] at hu
      rw [hcell j (by omega), ← hu]
    · rw [List.getElem?_eq_none (by simp; omega)] at hu; cases hu
end
end Go.Proofs.Ytjbedcgacnnanaa
