/-
  What a law's arguments are when they are opened: numbers as natural numbers, lists of numbers as lists that the memory holds.
-/
import Derived.WalkKit
import Derived.ProofKit
import Derived.OpenShut
import Derived.ShutString
import Derived.ChangeOld
import Derived.Below
import Derived.Deep.Matrix
import Derived.Deep.Slices
import Derived.Test.YtjbedcgacnnanaaDoorBa
namespace Go.Proofs.YtjbedcgacnnanaaDoor
open Go.ChangeShapes Go.WideShapes Go.ChangeAt Go.RowKit

theorem nat_u8 {a : Int} (h : (Lit.int .u8 a).wf = true) : ∃ n : Nat, a = (n : Int) ∧ n < 256 := by
  have h2 := bounds_u8 h
  exact ⟨a.toNat, by omega, by omega⟩
theorem nat_u16 {a : Int} (h : (Lit.int .u16 a).wf = true) : ∃ n : Nat, a = (n : Int) ∧ n < 65536 := by
  have h2 := bounds_u16 h
  exact ⟨a.toNat, by omega, by omega⟩
theorem nat_u32 {a : Int} (h : (Lit.int .u32 a).wf = true) : ∃ n : Nat, a = (n : Int) ∧ n < 4294967296 := by
  have h2 := bounds_u32 h
  exact ⟨a.toNat, by omega, by omega⟩
theorem nat_u64 {a : Int} (h : (Lit.int .u64 a).wf = true) : ∃ n : Nat, a = (n : Int) ∧ n < 2 ^ 64 := by
  have h2 := bounds_u64 h
  exact ⟨a.toNat, by omega, by omega⟩

section
variable {H : Type} {enc : TypeId × Value → H} {P : Program} {w : World}
/-- a slice of bytes that came in -/
theorem open_bytes {t e : TypeId} {r : Reach} {b0 : Nat} {v : Value} {d : DataW H} {p : List MemPlace} (ht : P.underlying t = some (.slice e)) (he : P.underlying e = some (.int .u8)) (hc : P.cellsOf e = 1)
    (hv : Value.okWide P w r b0 t v) (h : DataW.Trod enc P w 0 (fun _ => true) true t v d p) :
    ∃ (A : Option Addr) (n c : Nat) (bs : List UInt8), v = .slice A n c ∧ n ≤ c ∧ c ≤ maxLen ∧ Reads w w.heap.size 1 A n (bs.map B8) := by
  obtain ⟨A, n, c, rfl⟩ := okWide_slice ht hv
  obtain ⟨fuel, hf⟩ := h
  rcases open_ints ht he hc hf with ⟨hcs, _⟩ | ⟨x, l, c', zs, hcs, _, hl, hm, hz, _, hcell, hwz⟩
  · simp [Value.cells] at hcs
    obtain ⟨rfl, rfl, rfl⟩ := hcs
    exact ⟨none, 0, 0, [], rfl, Nat.le_refl _, by simp, Reads.none_⟩
  · simp [Value.cells] at hcs
    obtain ⟨rfl, rfl, rfl⟩ := hcs
    have hz' : zs.length = c := by simpa using hz
    refine ⟨some x, n, c, (zs.take n).map (fun z => UInt8.ofNat z.toNat), rfl, hl, hm, by simp [hz', hl], fun hn => ?_⟩
    have h0 := hcell 0 (by omega)
    refine ⟨x, rfl, by have := lt_of_cell h0; rwa [block_of_add] at this, fun j u hu => ?_⟩
    rw [List.getElem?_map, List.getElem?_map, List.getElem?_take] at hu
    by_cases hj : j < n
    · rw [if_pos hj, List.getElem?_eq_getElem (by omega)] at hu
      simp only [Option.map_some, Option.some.injEq] at hu
      have hb := bounds_u8 (hwz _ (List.getElem_mem (show j < zs.length by omega)))
      rw [hcell j (by omega), ← hu]
      simp only [List.getD_eq_getElem?_getD, List.getElem?_eq_getElem (show j < zs.length by omega), Option.getD_some, B8]
      have : (UInt8.ofNat zs[j].toNat).toNat = zs[j].toNat := by rw [UInt8.toNat_ofNat']; omega
      rw [this]
      congr 2; omega
    · rw [if_neg hj] at hu; cases hu
/-- a slice of slices of bytes that came in -/
theorem open_rows8 {t e q : TypeId} {r : Reach} {b0 : Nat} {v : Value} {d : DataW H} {p : List MemPlace} (ht : P.underlying t = some (.slice e)) (he : P.underlying e = some (.slice q)) (hq : P.underlying q = some (.int .u8)) (ce : P.cellsOf e = 1) (cq : P.cellsOf q = 1)
    (hv : Value.okWide P w r b0 t v) (h : DataW.Trod enc P w 0 (fun _ => true) true t v d p) :
    ∃ (A : Option Addr) (n c : Nat) (xss : List (List UInt8)), v = .slice A n c ∧ n ≤ c ∧ c ≤ maxLen ∧ Rows8 w w.heap.size A n xss := by
  obtain ⟨A, n, c, rfl⟩ := okWide_slice ht hv
  obtain ⟨fuel, hf⟩ := h
  rcases Go.Deep.open_int_rows ht he hq ce cq hf with ⟨hcs, _⟩ | ⟨x, l, c', Ar, Lr, Cr, Z, hcs, _, hl, hm, _, hrow⟩
  · simp [Value.cells] at hcs
    obtain ⟨rfl, rfl, rfl⟩ := hcs
    exact ⟨none, 0, 0, [], rfl, Nat.le_refl _, by simp, rows8_nil _ _⟩
  · simp [Value.cells] at hcs
    obtain ⟨rfl, rfl, rfl⟩ := hcs
    refine ⟨some x, n, c, (List.range n).map (fun i => ((Z i).take (Lr i)).map (fun z => UInt8.ofNat z.toNat)), rfl, hl, hm,
      (List.range n).map (fun i => Value.slice (Ar i) (Lr i) (Cr i)), ⟨by simp, fun hn => ?_⟩, by simp, fun i xs hi => ?_⟩
    · obtain ⟨h0, _⟩ := hrow 0 (by omega)
      refine ⟨x, rfl, by have := lt_of_cell h0; rwa [block_of_add] at this, fun j u hu => ?_⟩
      rw [List.getElem?_map] at hu
      by_cases hj : j < n
      · rw [List.getElem?_range hj] at hu
        simp only [Option.map_some, Option.some.injEq] at hu
        subst hu
        exact (hrow j (by omega)).1
      · rw [List.getElem?_eq_none (by simp; omega)] at hu; cases hu
    · have hin : i < n := by
        have := (List.getElem?_eq_some_iff.1 hi).1
        simpa using this
      rw [List.getElem?_map, List.getElem?_range hin] at hi
      simp only [Option.map_some, Option.some.injEq] at hi
      subst hi
      obtain ⟨_, hL, hC, hZ, hwz, hA0, hA1⟩ := hrow i (by omega)
      refine ⟨Ar i, Lr i, Cr i, by rw [List.getElem?_map, List.getElem?_range hin]; rfl, hL, hC, by simp [hZ, hL], fun hn => ?_⟩
      cases hAi : Ar i with
      | none => have := hA0 hAi; omega
      | some a' =>
        obtain ⟨_, hc⟩ := hA1 a' hAi
        have h0 := hc 0 (by omega)
        refine ⟨a', rfl, by have := lt_of_cell h0; rwa [block_of_add] at this, fun j u hu => ?_⟩
        rw [List.getElem?_map, List.getElem?_map, List.getElem?_take] at hu
        by_cases hj : j < Lr i
        · rw [if_pos hj, List.getElem?_eq_getElem (by omega)] at hu
          simp only [Option.map_some, Option.some.injEq] at hu
          have hb := bounds_u8 (hwz _ (List.getElem_mem (show j < (Z i).length by omega)))
          rw [hc j (by omega), ← hu]
          simp only [List.getD_eq_getElem?_getD, List.getElem?_eq_getElem (show j < (Z i).length by omega), Option.getD_some, B8]
          have : (UInt8.ofNat (Z i)[j].toNat).toNat = (Z i)[j].toNat := by rw [UInt8.toNat_ofNat']; omega
          rw [this]
          congr 2; omega
        · rw [if_neg hj] at hu; cases hu
end
end Go.Proofs.YtjbedcgacnnanaaDoor
