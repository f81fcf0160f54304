/-
  A law's argument of matrices (a slice of structs of two numbers and a slice of bytes), opened.
-/
import Derived.Test.YtbokbndphpdgoaaMats
import Derived.Test.YtbokbndphpdgoaaOpk3
import Derived.Test.YtbokbndphpdgoaaOp
import Derived.Deep.SlicePairs
namespace Go.Proofs.Ytbokbndphpdgoaa
open Go.Joins Go.ChangeShapes Go.WideShapes Go.RowKit Go.Deep

section
variable {H : Type} {enc : TypeId × Value → H} {P : Program} {w : World}
theorem open_mats {r : Reach} {b0 : Nat} {t e eb : TypeId} {f0 f1 f2 : Field} {v : Value} {d : DataW H} {p : List MemPlace} (ht : P.underlying t = some (.slice e)) (he : P.underlying e = some (.struct #[f0, f1, f2]))
    (ce : P.cellsOf e = 3) (o0 : f0.offset = 0) (o1 : f1.offset = 1) (o2 : f2.offset = 2) (c0 : P.cellsOf f0.type = 1) (c1 : P.cellsOf f1.type = 1) (c2 : P.cellsOf f2.type = 1)
    (t0 : P.underlying f0.type = some (.int .i64)) (t1 : P.underlying f1.type = some (.int .i64)) (t2 : P.underlying f2.type = some (.slice eb)) (hb8 : P.underlying eb = some (.int .u8)) (hcb : P.cellsOf eb = 1)
    (hv : Value.okWide P w r b0 t v) (h : DataW.Trod enc P w 0 (fun _ => true) true t v d p) :
    ∃ (A : Option Addr) (n c : Nat) (l : List (Int × Int × List UInt8)), v = .slice A n c ∧ n ≤ c ∧ c ≤ maxLen ∧ (MatsR w w.heap.size A n l ∧ ∀ t ∈ l, (Lit.int .i64 t.1).wf = true ∧ (Lit.int .i64 t.2.1).wf = true) := by
  obtain ⟨A, n, c, rfl⟩ := okWide_slice ht hv
  obtain ⟨fuel, hf⟩ := h
  rcases open_slice ht hf with ⟨hcs, _⟩ | ⟨a, len, cap, m, n', D, Pl, hcs, hb, hl, hm, hmm, _, hx⟩
  · simp [Value.cells] at hcs
    obtain ⟨rfl, rfl, rfl⟩ := hcs
    exact ⟨none, 0, 0, [], rfl, Nat.le_refl _, by simp, ⟨rfl, fun h => by omega⟩, fun t ht => by cases ht⟩
  · simp [Value.cells] at hcs
    obtain ⟨rfl, rfl, rfl⟩ := hcs
    have hlm : n ≤ m := by rw [hmm]; split <;> omega
    have each : ∀ i, i < n → ∃ q : Int × Int × List UInt8, ∃ (Ai : Option Addr) (ni ci : Nat), w.cell? (a.add (i * 3)) = some (.int .i64 q.1) ∧ w.cell? (a.add (i * 3 + 1)) = some (.int .i64 q.2.1) ∧ w.cell? (a.add (i * 3 + 2)) = some (.slice Ai ni ci) ∧ ni ≤ ci ∧ Reads w w.heap.size 1 Ai ni (q.2.2.map B8) ∧ (Lit.int .i64 q.1).wf = true ∧ (Lit.int .i64 q.2.1).wf = true := by
      intro i hi
      obtain ⟨cs', h1, h2⟩ := hx i (by omega)
      rw [ce] at h1
      obtain ⟨_, hlen, hcell⟩ := World.cells?_some h1
      obtain ⟨xs, k, hk, hxy, _, hxl, hfl⟩ := DataW.trod_struct he h2
      match xs, hxl, cs', hlen with
      | [y0, y1, y2], _, [v0, v1, v2], _ =>
        have g0 := hfl 0 f0 rfl
        have g1 := hfl 1 f1 rfl
        have g2 := hfl 2 f2 rfl
        simp [o0, o1, o2, c0, c1, c2] at g0 g1 g2
        obtain ⟨z0, e0, -, w0⟩ := DataW.trod_int t0 g0
        obtain ⟨z1, e1, -, w1⟩ := DataW.trod_int t1 g1
        simp only [List.cons.injEq, and_true] at e0 e1
        subst e0 e1
        have q0 := hcell 0 (by omega)
        have q1 := hcell 1 (by omega)
        have q2 := hcell 2 (by omega)
        rw [add_add] at q0 q1 q2
        rcases open_ints t2 hb8 hcb g2 with ⟨hcs, _⟩ | ⟨x, l, c', zs, hcs, _, hl', hm', hz, _, hcell', hwz⟩
        · simp only [List.cons.injEq, and_true] at hcs
          subst hcs
          exact ⟨(z0, z1, []), none, 0, 0, by simpa using q0, by simpa using q1, by simpa using q2, Nat.le_refl _, Reads.none_, w0, w1⟩
        · simp only [List.cons.injEq, and_true] at hcs
          subst hcs
          have hz' : zs.length = c' := by simpa using hz
          refine ⟨(z0, z1, (zs.take l).map (fun z => UInt8.ofNat z.toNat)), some x, l, c', by simpa using q0, by simpa using q1, by simpa using q2, hl', ⟨by simp [hz', hl'], fun hn => ?_⟩, w0, w1⟩
          have hx0 := hcell' 0 (by omega)
          refine ⟨x, rfl, by have := lt_of_cell hx0; rwa [block_of_add] at this, fun j u hu => ?_⟩
          rw [List.getElem?_map, List.getElem?_map, List.getElem?_take] at hu
          by_cases hj : j < l
          · rw [if_pos hj, List.getElem?_eq_getElem (by omega)] at hu
            simp only [Option.map_some, Option.some.injEq] at hu
            have hbz := bounds_u8 (hwz _ (List.getElem_mem (show j < zs.length by omega)))
            rw [hcell' j (by omega), ← hu]
            simp only [List.getD_eq_getElem?_getD, List.getElem?_eq_getElem (show j < zs.length by omega), Option.getD_some, B8]
            have : (UInt8.ofNat zs[j].toNat).toNat = zs[j].toNat := by rw [UInt8.toNat_ofNat']; omega
            rw [this]
            congr 2; omega
          · rw [if_neg hj] at hu; cases hu
    obtain ⟨q, hq⟩ := choose_lt each
    refine ⟨some a, n, _, (List.range n).map q, rfl, hl, hm, ⟨by simp, fun hn => ?_⟩, fun t ht => ?_⟩
    · obtain ⟨_, _, _, h0, _⟩ := hq 0 hn
      refine ⟨a, rfl, by have := lt_of_cell h0; rwa [block_of_add] at this, fun i hi => ?_⟩
      have hin : i < n := by simpa using hi
      have hel : ((List.range n).map q)[i] = q i := by simp
      rw [hel]
      obtain ⟨Ai, ni, ci, h0, h1, h2, h3, h4, _⟩ := hq i hin
      exact ⟨Ai, ni, ci, h0, h1, h2, h3, h4⟩
    · obtain ⟨i, hi, rfl⟩ := List.mem_map.1 ht
      obtain ⟨_, _, _, _, _, _, _, _, h5, h6⟩ := hq i (List.mem_range.1 hi)
      exact ⟨h5, h6⟩
end
end Go.Proofs.Ytbokbndphpdgoaa
