/-
  A law's argument of a matrix (two numbers and a slice of bytes, by value), opened.
-/
import Derived.Test.YtbokbndphpdgoaaOpk3
import Derived.Test.YtbokbndphpdgoaaOp
namespace Go.Proofs.Ytbokbndphpdgoaa
open Go.Joins Go.ChangeShapes Go.WideShapes Go.RowKit Go.Deep

section
variable {H : Type} {enc : TypeId × Value → H} {P : Program} {w : World}
theorem open_mat {r : Reach} {b0 : Nat} {t e : TypeId} {f0 f1 f2 : Field} {v : Value} {d : DataW H} {p : List MemPlace} (hs : P.underlying t = some (.struct #[f0, f1, f2])) (hone : oneCellFields P #[f0, f1, f2] = true) (hC : P.cellsOf t = 3)
    (t0 : P.underlying f0.type = some (.int .i64)) (t1 : P.underlying f1.type = some (.int .i64)) (t2 : P.underlying f2.type = some (.slice e)) (he : P.underlying e = some (.int .u8)) (hc : P.cellsOf e = 1)
    (hv : Value.okWide P w r b0 t v) (h : DataW.Trod enc P w 0 (fun _ => true) true t v d p) :
    ∃ (a0 a1 : Int) (A : Option Addr) (n c : Nat) (bs : List UInt8), v = .agg #[.int .i64 a0, .int .i64 a1, .slice A n c] ∧ ((Lit.int .i64 a0).wf = true ∧ (Lit.int .i64 a1).wf = true) ∧ n ≤ c ∧ c ≤ maxLen ∧ Reads w w.heap.size 1 A n (bs.map B8) := by
  obtain ⟨v0, v1, v2, y0, y1, y2, n, rfl, h0, h1, h2⟩ := open_agg3 hs hone hC hv h
  obtain ⟨n0, e0, -, w0⟩ := DataW.trod_int t0 h0
  obtain ⟨n1, e1, -, w1⟩ := DataW.trod_int t1 h1
  simp only [List.cons.injEq, and_true] at e0 e1
  subst e0 e1
  rcases open_ints t2 he hc h2 with ⟨hcs, _⟩ | ⟨x, l, c', zs, hcs, _, hl, hm, hz, _, hcell, hwz⟩
  · simp only [List.cons.injEq, and_true] at hcs
    subst hcs
    exact ⟨n0, n1, none, 0, 0, [], rfl, ⟨w0, w1⟩, Nat.le_refl _, by simp, Reads.none_⟩
  · simp only [List.cons.injEq, and_true] at hcs
    subst hcs
    have hz' : zs.length = c' := by simpa using hz
    refine ⟨n0, n1, some x, l, c', (zs.take l).map (fun z => UInt8.ofNat z.toNat), rfl, ⟨w0, w1⟩, hl, hm, by simp [hz', hl], fun hn => ?_⟩
    have hx0 := hcell 0 (by omega)
    refine ⟨x, rfl, by have := lt_of_cell hx0; rwa [block_of_add] at this, fun j u hu => ?_⟩
    rw [List.getElem?_map, List.getElem?_map, List.getElem?_take] at hu
    by_cases hj : j < l
    · rw [if_pos hj, List.getElem?_eq_getElem (by omega)] at hu
      simp only [Option.map_some, Option.some.injEq] at hu
      have hb := bounds_u8 (hwz _ (List.getElem_mem (show j < zs.length by omega)))
      rw [hcell j (by omega), ← hu]
      simp only [List.getD_eq_getElem?_getD, List.getElem?_eq_getElem (show j < zs.length by omega), Option.getD_some, B8]
      have : (UInt8.ofNat zs[j].toNat).toNat = zs[j].toNat := by rw [UInt8.toNat_ofNat']; omega
      rw [this]
      congr 2; omega
    · rw [if_neg hj] at hu; cases hu
end
end Go.Proofs.Ytbokbndphpdgoaa
