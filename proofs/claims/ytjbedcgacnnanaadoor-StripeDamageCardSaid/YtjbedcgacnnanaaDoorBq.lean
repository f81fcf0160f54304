/-
  Texts put together: Matmu Matmr.
-/
import Derived.Test.YtjbedcgacnnanaaDoorBn
namespace Go.Proofs.YtjbedcgacnnanaaDoor
set_option linter.unusedSimpArgs false
set_option linter.unusedVariables false
open Go.RowKit

/-- the sum of the first k products -/
def dotK (a b : Nat → Nat → UInt8) (i j : Nat) : Nat → UInt8
  | 0 => 0
  | k + 1 => dotK a b i j k ^^^ fm (a i k) (b k j)
/-- the product's cells -/
def mulC (xa xb : List UInt8) (R K C : Nat) : List UInt8 := cellsTo C (fun i j => dotK (cellAt xa K) (cellAt xb C) i j K) (R * C)
/-- the product on the way: rows before i are done, of row i k sums are there -/
def mst (a b : Nat → Nat → UInt8) (K i k i' j : Nat) : UInt8 := if i' < i then dotK a b i' j K else if i' = i then dotK a b i' j k else 0

/-- three boxes in a row -/
theorem blk3 (w : World) (t1 t2 t3 : TypeId) (c1 c2 c3 : Array Value) :
    Blk (((w.alloc (.cells c1 t1)).alloc (.cells c2 t2)).alloc (.cells c3 t3)) w.heap.size t1 c1 ∧ Blk (((w.alloc (.cells c1 t1)).alloc (.cells c2 t2)).alloc (.cells c3 t3)) (w.heap.size + 1) t2 c2 ∧
    Blk (((w.alloc (.cells c1 t1)).alloc (.cells c2 t2)).alloc (.cells c3 t3)) (w.heap.size + 1 + 1) t3 c3 ∧ Below w.heap.size w (((w.alloc (.cells c1 t1)).alloc (.cells c2 t2)).alloc (.cells c3 t3)) := by
  refine ⟨((Blk.new w t1 c1).alloc _).alloc _, ?_, ?_, (((Below.refl _ _).alloc (Nat.le_refl _) _).alloc (by simp) _).alloc (by simp; omega) _⟩
  · have h := (Blk.new (w.alloc (.cells c1 t1)) t2 c2).alloc (.cells c3 t3)
    simpa using h
  · have h := Blk.new ((w.alloc (.cells c1 t1)).alloc (.cells c2 t2)) t3 c3
    simpa using h
theorem mst_zero (a b : Nat → Nat → UInt8) (K C R : Nat) : cellsTo C (fun _ _ => 0) (R * C) = cellsTo C (mst a b K 0 0) (R * C) := by
  apply cellsTo_congr
  intro i j _ _
  unfold mst
  rw [if_neg (by omega)]
  split <;> rfl
theorem mst_next (a b : Nat → Nat → UInt8) (K i C R : Nat) : cellsTo C (mst a b K i K) (R * C) = cellsTo C (mst a b K (i + 1) 0) (R * C) := by
  apply cellsTo_congr
  intro i' j _ _
  unfold mst
  by_cases h1 : i' < i
  · rw [if_pos h1, if_pos (by omega)]
  · rw [if_neg h1]
    by_cases h2 : i' = i
    · rw [if_pos h2, if_pos (by omega)]
    · rw [if_neg h2, if_neg (by omega)]
      split <;> rfl
theorem mst_end (a b : Nat → Nat → UInt8) (K C R : Nat) : cellsTo C (mst a b K R 0) (R * C) = cellsTo C (fun i j => dotK a b i j K) (R * C) := by
  apply cellsTo_congr
  intro i' j hi _
  unfold mst
  rw [if_pos hi]
theorem mst_row (a b : Nat → Nat → UInt8) (K i k C R : Nat) (hi : i < R) : rowC (cellsTo C (mst a b K i k) (R * C)) C i = rowF C (fun j => dotK a b i j k) := by
  rw [rowC_cellsTo R C i _ hi]
  congr 1
  funext j
  unfold mst
  rw [if_neg (by omega), if_pos rfl]
theorem mst_put (a b : Nat → Nat → UInt8) (K i k C R : Nat) (hi : i < R) : splice (cellsTo C (mst a b K i k) (R * C)) (i * C) (rowF C (fun j => dotK a b i j (k + 1))) = cellsTo C (mst a b K i (k + 1)) (R * C) := by
  rw [put_cellsTo R C i _ _ hi]
  apply cellsTo_congr
  intro i' j _ _
  unfold mst
  by_cases h1 : i' = i
  · subst h1
    rw [if_pos rfl, if_neg (by omega), if_pos rfl]
  · rw [if_neg h1, if_neg h1, if_neg h1]

end Go.Proofs.YtjbedcgacnnanaaDoor

namespace Go.Proofs.YtjbedcgacnnanaaDoor
set_option linter.unusedSimpArgs false
set_option linter.unusedVariables false
open Go.RowKit

theorem cellAt_of {bs : List UInt8} {C i j : Nat} {b : UInt8} (h : bs[i * C + j]? = some b) : cellAt bs C i j = b := by
  unfold cellAt
  rw [List.getD_eq_getElem?_getD, h]; rfl
theorem xor8m (a b : UInt8) : bits .xor .u8 (a.toNat : Int) (b.toNat : Int) = ((a ^^^ b).toNat : Int) := by
  rw [u8_xor_nat _ _ a.toNat_lt b.toNat_lt, UInt8.toNat_xor]
theorem refMul8m (a b : UInt8) (w : World) :
    Calls Tryd.prog 62 #[.int .u8 (a.toNat : Int), .int .u8 (b.toNat : Int)] w fun e w' => e = .returned (.int .u8 ((fm a b).toNat : Int)) ∧ w = w' := by
  rw [fm_toNat]; exact refMul_any _ _ _ a.toNat_lt b.toNat_lt

end Go.Proofs.YtjbedcgacnnanaaDoor
