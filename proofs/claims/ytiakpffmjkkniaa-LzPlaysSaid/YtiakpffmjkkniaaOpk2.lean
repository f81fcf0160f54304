/-
  A law's argument of tokens (a slice of structs of three numbers), opened.
-/
import Derived.Test.YtiakpffmjkkniaaLzx
import Derived.Test.YtiakpffmjkkniaaOpk
import Derived.Deep.SlicePairs
namespace Go.Proofs.Ytiakpffmjkkniaa
open Go.Joins Go.ChangeShapes Go.WideShapes Go.RowKit Go.Deep

section
variable {H : Type} {enc : TypeId × Value → H} {P : Program} {w : World}
theorem open_toks {r : Reach} {b0 : Nat} {t e : TypeId} {f0 f1 f2 : Field} {v : Value} {d : DataW H} {p : List MemPlace} (ht : P.underlying t = some (.slice e)) (he : P.underlying e = some (.struct #[f0, f1, f2]))
    (ce : P.cellsOf e = 3) (o0 : f0.offset = 0) (o1 : f1.offset = 1) (o2 : f2.offset = 2) (c0 : P.cellsOf f0.type = 1) (c1 : P.cellsOf f1.type = 1) (c2 : P.cellsOf f2.type = 1)
    (t0 : P.underlying f0.type = some (.int .u8)) (t1 : P.underlying f1.type = some (.int .i64)) (t2 : P.underlying f2.type = some (.int .i64))
    (hv : Value.okWide P w r b0 t v) (h : DataW.Trod enc P w 0 (fun _ => true) true t v d p) :
    ∃ (A : Option Addr) (n c : Nat) (l : List (Nat × Int × Int)), v = .slice A n c ∧ n ≤ c ∧ c ≤ maxLen ∧ (Reads w w.heap.size 3 A n (itsC l) ∧ ∀ t ∈ l, t.1 < 256) := by
  obtain ⟨A, n, c, rfl⟩ := okWide_slice ht hv
  obtain ⟨fuel, hf⟩ := h
  rcases open_slice ht hf with ⟨hcs, _⟩ | ⟨a, len, cap, m, n', D, Pl, hcs, hb, hl, hm, hmm, _, hx⟩
  · simp [Value.cells] at hcs
    obtain ⟨rfl, rfl, rfl⟩ := hcs
    exact ⟨none, 0, 0, [], rfl, Nat.le_refl _, by simp, Reads.none_, fun t ht => by cases ht⟩
  · simp [Value.cells] at hcs
    obtain ⟨rfl, rfl, rfl⟩ := hcs
    have hlm : n ≤ m := by rw [hmm]; split <;> omega
    have each : ∀ i, i < n → ∃ q : Nat × Int × Int, w.cell? (a.add (i * 3)) = some (.int .u8 (q.1 : Int)) ∧ w.cell? (a.add (i * 3 + 1)) = some (.int .i64 q.2.1) ∧ w.cell? (a.add (i * 3 + 2)) = some (.int .i64 q.2.2) ∧ q.1 < 256 := by
      intro i hi
      obtain ⟨cs', h1, h2⟩ := hx i (by omega)
      rw [ce] at h1
      obtain ⟨_, hlen, hcell⟩ := World.cells?_some h1
      obtain ⟨xs, k, hk, hxy, _, hxl, hfl⟩ := DataW.trod_struct he h2
      match xs, hxl, cs', hlen with
      | [y0, y1, y2], _, [v0, v1, v2], _ =>
        have g0 := hfl 0 f0 rfl
        have g1 := hfl 1 f1 rfl
        have g2 := hfl 2 f2 rfl
        simp [o0, o1, o2, c0, c1, c2] at g0 g1 g2
        obtain ⟨z0, e0, -, w0⟩ := DataW.trod_int t0 g0
        obtain ⟨z1, e1, -, -⟩ := DataW.trod_int t1 g1
        obtain ⟨z2, e2, -, -⟩ := DataW.trod_int t2 g2
        simp only [List.cons.injEq, and_true] at e0 e1 e2
        subst e0 e1 e2
        have hw0 := bounds_u8 w0
        have q0 := hcell 0 (by omega)
        have q1 := hcell 1 (by omega)
        have q2 := hcell 2 (by omega)
        rw [add_add] at q0 q1 q2
        refine ⟨(z0.toNat, z1, z2), ?_, by simpa using q1, by simpa using q2, by show z0.toNat < 256; omega⟩
        show _ = some (Value.int .u8 ((z0.toNat : Nat) : Int))
        rw [Int.toNat_of_nonneg hw0.1]
        simpa using q0
    obtain ⟨q, hq⟩ := choose_lt each
    refine ⟨some a, n, _, (List.range n).map q, rfl, hl, hm, ⟨by rw [itsC_len]; simp, fun hn => ?_⟩, fun t ht => ?_⟩
    · have h0 := (hq 0 hn).1
      refine ⟨a, rfl, by have := lt_of_cell h0; rwa [block_of_add] at this, fun j u hu => ?_⟩
      have hj : j < n * 3 := by
        have := (List.getElem?_eq_some_iff.1 hu).1
        rw [itsC_len] at this; simpa using this
      have hi : j / 3 < ((List.range n).map q).length := by simp; omega
      have hat := itsC_at ((List.range n).map q) (j / 3) (j % 3) hi (by omega)
      have hjj : j / 3 * 3 + j % 3 = j := by omega
      rw [hjj, hu] at hat
      have hqi := hq (j / 3) (by omega)
      have hel : ((List.range n).map q)[j / 3] = q (j / 3) := by simp
      rw [hel] at hat
      have hr : j % 3 = 0 ∨ j % 3 = 1 ∨ j % 3 = 2 := by omega
      rcases hr with hr | hr | hr
      · rw [hr] at hat hjj
        rw [← hjj, hat]; exact hqi.1
      · rw [hr] at hat hjj
        rw [← hjj, hat]; exact hqi.2.1
      · rw [hr] at hat hjj
        rw [← hjj, hat]; exact hqi.2.2.1
    · obtain ⟨i, hi, rfl⟩ := List.mem_map.1 ht
      exact (hq i (List.mem_range.1 hi)).2.2.2
end
end Go.Proofs.Ytiakpffmjkkniaa
