/-
  Brackets of products; the identity times a matrix: plain.
-/
import Derived.Test.YtbokbndphpdgoaaMatv
import Derived.Test.YtbokbndphpdgoaaLin
namespace Go.Proofs.Ytbokbndphpdgoaa
set_option linter.unusedSimpArgs false
set_option linter.unusedVariables false

theorem dotK_sum (a b : Nat → Nat → UInt8) (i j : Nat) : ∀ k, dotK a b i j k = Lin.sum (fun t => fm (a i t) (b t j)) k
  | 0 => rfl
  | k + 1 => by rw [dotK, dotK_sum a b i j k]; rfl
theorem dotK_mm (a b : Nat → Nat → UInt8) (i j k : Nat) : dotK a b i j k = Lin.mm k a b i j := dotK_sum a b i j k
theorem cellAt_cellsTo (R C i j : Nat) (f : Nat → Nat → UInt8) (hi : i < R) (hj : j < C) : cellAt (cellsTo C f (R * C)) C i j = f i j := by
  unfold cellAt
  rw [List.getD_eq_getElem?_getD, cellsTo_get _ _ _ _ (row_lt hi hj), (div_row hj).1, (div_row hj).2]; rfl
theorem mulC_eq (xa xb : List UInt8) (R K C : Nat) : mulC xa xb R K C = cellsTo C (Lin.mm K (cellAt xa K) (cellAt xb C)) (R * C) := by
  unfold mulC
  congr 1
  funext i j
  exact dotK_mm _ _ _ _ _
theorem mulC_len (xa xb : List UInt8) (R K C : Nat) : (mulC xa xb R K C).length = R * C := cellsTo_len _ _ _
theorem mulC_at (xa xb : List UInt8) (R K C i j : Nat) (hi : i < R) (hj : j < C) : cellAt (mulC xa xb R K C) C i j = Lin.mm K (cellAt xa K) (cellAt xb C) i j := by
  rw [mulC_eq, cellAt_cellsTo R C i j _ hi hj]
theorem mulC_assoc (xa xb xc : List UInt8) (R K C D : Nat) : mulC (mulC xa xb R K C) xc R C D = mulC xa (mulC xb xc K C D) R K D := by
  rw [mulC_eq (mulC xa xb R K C), mulC_eq xa (mulC xb xc K C D)]
  apply cellsTo_congr
  intro i j hi hj
  rw [Lin.mm_congr (fun t ht => mulC_at xa xb R K C i t hi ht) (fun _ _ => rfl), Lin.mm_assoc]
  exact (Lin.mm_congr (fun _ _ => rfl) (fun t ht => mulC_at xb xc K C D t j ht hj)).symm
theorem one_eq : oneC = Lin.one := rfl
theorem mulC_id (xa : List UInt8) (R K : Nat) (h : xa.length = R * K) : mulC (cellsTo R oneC (R * R)) xa R R K = xa := by
  rw [mulC_eq]
  conv => rhs; rw [cellsTo_of xa R K h]
  apply cellsTo_congr
  intro i j hi hj
  rw [Lin.mm_congr (fun t ht => cellAt_cellsTo R R i t oneC hi ht) (fun _ _ => rfl), one_eq, Lin.mm_one_left _ _ hi]
end Go.Proofs.Ytbokbndphpdgoaa
