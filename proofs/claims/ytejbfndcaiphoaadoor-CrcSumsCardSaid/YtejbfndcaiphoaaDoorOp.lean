/-
  What a law's arguments are when they are opened: numbers as natural numbers, lists of numbers as lists that the memory holds.
-/
import Derived.WalkKit
import Derived.ProofKit
import Derived.OpenShut
import Derived.ShutString
import Derived.ChangeOld
import Derived.Below
import Derived.Test.YtejbfndcaiphoaaDoorMem
namespace Go.Proofs.YtejbfndcaiphoaaDoor
open Go.ChangeShapes Go.WideShapes Go.ChangeAt Go.RowKit

theorem nat_u8 {a : Int} (h : (Lit.int .u8 a).wf = true) : ∃ n : Nat, a = (n : Int) ∧ n < 256 := by
  have h2 := bounds_u8 h
  exact ⟨a.toNat, by omega, by omega⟩
theorem nat_u16 {a : Int} (h : (Lit.int .u16 a).wf = true) : ∃ n : Nat, a = (n : Int) ∧ n < 65536 := by
  have h2 := bounds_u16 h
  exact ⟨a.toNat, by omega, by omega⟩
theorem nat_u32 {a : Int} (h : (Lit.int .u32 a).wf = true) : ∃ n : Nat, a = (n : Int) ∧ n < 4294967296 := by
  have h2 := bounds_u32 h
  exact ⟨a.toNat, by omega, by omega⟩
theorem nat_u64 {a : Int} (h : (Lit.int .u64 a).wf = true) : ∃ n : Nat, a = (n : Int) ∧ n < 2 ^ 64 := by
  have h2 := bounds_u64 h
  exact ⟨a.toNat, by omega, by omega⟩

section
variable {H : Type} {enc : TypeId × Value → H} {P : Program} {w : World}
/-- a slice of bytes that came in -/
theorem open_bytes {t e : TypeId} {r : Reach} {b0 : Nat} {v : Value} {d : DataW H} {p : List MemPlace} (ht : P.underlying t = some (.slice e)) (he : P.underlying e = some (.int .u8)) (hc : P.cellsOf e = 1)
    (hv : Value.okWide P w r b0 t v) (h : DataW.Trod enc P w 0 (fun _ => true) true t v d p) :
    ∃ (A : Option Addr) (n c : Nat) (bs : List UInt8), v = .slice A n c ∧ n ≤ c ∧ c ≤ maxLen ∧ Reads w w.heap.size 1 A n (bs.map B8) := by
  obtain ⟨A, n, c, rfl⟩ := okWide_slice ht hv
  obtain ⟨fuel, hf⟩ := h
  rcases open_ints ht he hc hf with ⟨hcs, _⟩ | ⟨x, l, c', zs, hcs, _, hl, hm, hz, _, hcell, hwz⟩
  · simp [Value.cells] at hcs
    obtain ⟨rfl, rfl, rfl⟩ := hcs
    exact ⟨none, 0, 0, [], rfl, Nat.le_refl _, by simp, Reads.none_⟩
  · simp [Value.cells] at hcs
    obtain ⟨rfl, rfl, rfl⟩ := hcs
    have hz' : zs.length = c := by simpa using hz
    refine ⟨some x, n, c, (zs.take n).map (fun z => UInt8.ofNat z.toNat), rfl, hl, hm, by simp [hz', hl], fun hn => ?_⟩
    have h0 := hcell 0 (by omega)
    refine ⟨x, rfl, by have := lt_of_cell h0; rwa [block_of_add] at this, fun j u hu => ?_⟩
    rw [List.getElem?_map, List.getElem?_map, List.getElem?_take] at hu
    by_cases hj : j < n
    · rw [if_pos hj, List.getElem?_eq_getElem (by omega)] at hu
      simp only [Option.map_some, Option.some.injEq] at hu
      have hb := bounds_u8 (hwz _ (List.getElem_mem (show j < zs.length by omega)))
      rw [hcell j (by omega), ← hu]
      simp only [List.getD_eq_getElem?_getD, List.getElem?_eq_getElem (show j < zs.length by omega), Option.getD_some, B8]
      have : (UInt8.ofNat zs[j].toNat).toNat = zs[j].toNat := by rw [UInt8.toNat_ofNat']; omega
      rw [this]
      congr 2; omega
    · rw [if_neg hj] at hu; cases hu
end
end Go.Proofs.YtejbfndcaiphoaaDoor
