/-
  Inverse of any matrix; plain laws of inverses.
-/
import Derived.Test.YtbokbndphpdgoaaMatwk6
import Derived.Test.YtbokbndphpdgoaaMatbr
namespace Go.Proofs.Ytbokbndphpdgoaa
set_option linter.unusedSimpArgs false
set_option linter.unusedVariables false
open Go.RowKit

/-- what an inverse gives -/
def invV (r c : Int) (bs : List UInt8) : Nat × Nat × List UInt8 × Int :=
  if Matp.may r c bs.length = true ∧ r = c then
    match Lin.inverse r.toNat (cellAt bs r.toNat) with
    | some x => (r.toNat, r.toNat, cellsTo r.toNat x (r.toNat * r.toNat), 0)
    | none => (0, 0, [], 14)
  else (0, 0, [], 13)
theorem inverse_all (r c : Int) (A : Option Addr) (n k : Nat) (bs : List UInt8) (w : World) (h : Reads w w.heap.size 1 A n (bs.map B8)) :
    Calls Try.prog 31 #[.agg #[.int .i64 r, .int .i64 c, .slice A n k]] w (MRet w (invV r c bs).1 (invV r c bs).2.1 (invV r c bs).2.2.1 (invV r c bs).2.2.2) := by
  have hl := h.len
  unfold invV
  rw [hl]
  by_cases hok : Matp.may r c n = true ∧ r = c
  · rw [if_pos hok]
    obtain ⟨R, C, rfl, rfl, hR, hC, hn⟩ := may_nat hok.1
    obtain rfl : R = C := by have := hok.2; omega
    simp only [Int.toNat_natCast]
    have := inverse_in R A n k bs w hR hn h
    unfold InvRet at this
    cases hi : Lin.inverse R (cellAt bs R) with
    | none => rw [hi] at this; exact this
    | some x => rw [hi] at this; exact this
  · rw [if_neg hok]
    exact inverse_bad r c A n k w hok
/-- the cases of an inverse -/
theorem invV_cases (r c : Int) (bs : List UInt8) :
    ((invV r c bs = (0, 0, [], 13) ∧ ¬ (Matp.may r c bs.length = true ∧ r = c)) ∨ (invV r c bs = (0, 0, [], 14) ∧ ∃ R : Nat, r = (R : Int) ∧ c = (R : Int) ∧ R ≤ 255 ∧ bs.length = R * R ∧ Lin.inverse R (cellAt bs R) = none)) ∨
    ∃ (R : Nat) (X : Nat → Nat → UInt8), r = (R : Int) ∧ c = (R : Int) ∧ R ≤ 255 ∧ bs.length = R * R ∧ invV r c bs = (R, R, cellsTo R X (R * R), 0) ∧ Lin.inverse R (cellAt bs R) = some X := by
  unfold invV
  by_cases hok : Matp.may r c bs.length = true ∧ r = c
  · rw [if_pos hok]
    obtain ⟨R, C, rfl, rfl, hR, hC, hn⟩ := may_nat hok.1
    obtain rfl : R = C := by have := hok.2; omega
    simp only [Int.toNat_natCast]
    cases hi : Lin.inverse R (cellAt bs R) with
    | none => exact .inl (.inr ⟨rfl, R, rfl, rfl, hR, hn, hi⟩)
    | some x => exact .inr ⟨R, x, rfl, rfl, hR, hn, rfl, hi⟩
  · rw [if_neg hok]
    exact .inl (.inl ⟨rfl, hok⟩)
/-- products: the cells of a square one -/
theorem mulC_sq (xa xb : List UInt8) (R : Nat) {i j : Nat} (hi : i < R) (hj : j < R) : cellAt (mulC xa xb R R R) R i j = Lin.mm R (cellAt xa R) (cellAt xb R) i j := mulC_at xa xb R R R i j hi hj
theorem cells_eq {R : Nat} {X : Nat → Nat → UInt8} {i j : Nat} (hi : i < R) (hj : j < R) : cellAt (cellsTo R X (R * R)) R i j = X i j := cellAt_cellsTo R R i j X hi hj
/-- the inverse of a product -/
theorem inv_mul {R : Nat} {xa xb : List UInt8} {X Y : Nat → Nat → UInt8} (hx : Lin.inverse R (cellAt xa R) = some X) (hy : Lin.inverse R (cellAt xb R) = some Y) :
    ∃ Z, Lin.inverse R (cellAt (mulC xa xb R R R) R) = some Z ∧ cellsTo R Z (R * R) = mulC (cellsTo R Y (R * R)) (cellsTo R X (R * R)) R R R := by
  obtain ⟨x1, x2⟩ := Lin.inverse_some hx
  obtain ⟨y1, y2⟩ := Lin.inverse_some hy
  have hleft : ∀ i j, i < R → j < R → Lin.mm R (Lin.mm R Y X) (cellAt (mulC xa xb R R R) R) i j = Lin.one i j := fun i j hi hj => by
    rw [Lin.mm_congr (fun _ _ => rfl) (fun t ht => mulC_sq xa xb R ht hj), Lin.mm_assoc]
    have e : ∀ t, t < R → Lin.mm R X (Lin.mm R (cellAt xa R) (cellAt xb R)) t j = cellAt xb R t j := fun t ht => by
      rw [← Lin.mm_assoc, Lin.mm_congr (fun s hs => x1 t s ht hs) (fun _ _ => rfl), Lin.mm_one_left _ _ ht]
    rw [Lin.mm_congr (fun _ _ => rfl) e]
    exact y1 i j hi hj
  obtain ⟨Z, hZ⟩ := Lin.inverse_of_left hleft
  refine ⟨Z, hZ, ?_⟩
  rw [mulC_eq]
  apply cellsTo_congr
  intro i j hi hj
  have hu := Lin.inverse_unique hleft (Lin.inverse_some hZ).2 i j hi hj
  rw [← hu]
  exact (Lin.mm_congr (fun t ht => cells_eq hi ht) (fun t ht => cells_eq ht hj)).symm
/-- either product with the inverse is the identity -/
theorem inv_right {R : Nat} {xa : List UInt8} {X : Nat → Nat → UInt8} (hx : Lin.inverse R (cellAt xa R) = some X) : mulC xa (cellsTo R X (R * R)) R R R = cellsTo R oneC (R * R) := by
  rw [mulC_eq]
  apply cellsTo_congr
  intro i j hi hj
  rw [Lin.mm_congr (fun _ _ => rfl) (fun t ht => cells_eq ht hj)]
  exact (Lin.inverse_some hx).2 i j hi hj
theorem inv_left {R : Nat} {xa : List UInt8} {X : Nat → Nat → UInt8} (hx : Lin.inverse R (cellAt xa R) = some X) : mulC (cellsTo R X (R * R)) xa R R R = cellsTo R oneC (R * R) := by
  rw [mulC_eq]
  apply cellsTo_congr
  intro i j hi hj
  rw [Lin.mm_congr (fun t ht => cells_eq hi ht) (fun _ _ => rfl)]
  exact (Lin.inverse_some hx).1 i j hi hj
/-- a row that isn't all nothing, and nothing times the matrix: no inverse -/
theorem inv_flat {R : Nat} {xb bs : List UInt8} (hb : xb.length = R) (hz : ∀ j, j < R → (mulC xb bs 1 R R).getD j 0 = 0) (hn : ∃ j, j < R ∧ xb.getD j 0 ≠ 0) : Lin.inverse R (cellAt bs R) = none := by
  cases hi : Lin.inverse R (cellAt bs R) with
  | none => rfl
  | some X =>
    exfalso
    obtain ⟨j, hj, hne⟩ := hn
    have := Lin.flat_zero hi (fun t => cellAt xb R 0 t) (fun j hj => by
      have h1 := mulC_at xb bs 1 R R 0 j (by omega) hj
      have h2 := hz j hj
      unfold cellAt at h1
      rw [Nat.zero_mul, Nat.zero_add] at h1
      rw [h2] at h1
      exact h1.symm) j hj
    unfold cellAt at this
    rw [Nat.zero_mul, Nat.zero_add] at this
    exact hne this
end Go.Proofs.Ytbokbndphpdgoaa
