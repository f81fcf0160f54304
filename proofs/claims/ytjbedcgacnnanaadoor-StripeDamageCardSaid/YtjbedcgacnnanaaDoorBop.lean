/-
  Texts put together: Opk Opst.
-/
import Derived.WalkKit
import Derived.ProofKit
import Derived.OpenShut
import Derived.ChangeOld
import Derived.ChangeArms
import Derived.Lib.SmallJoins
import Derived.Test.YtjbedcgacnnanaaDoorChecked
import Derived.Test.YtjbedcgacnnanaaDoorOp
import Derived.Test.YtjbedcgacnnanaaDoorBa
import Derived.Deep.SlicePairs
namespace Go.Proofs.YtjbedcgacnnanaaDoor
open Go.Joins Go.ChangeShapes Go.WideShapes Go.RowKit Go.Deep

section
variable {H : Type} {enc : TypeId × Value → H} {P : Program} {w : World} {base : Nat} {spare : Nat → Bool} {held : Bool}
theorem open_agg3 {r : Reach} {b0 : Nat} {t : TypeId} {f0 f1 f2 : Field} {v : Value} {d : DataW H} {p : List MemPlace} (hs : P.underlying t = some (.struct #[f0, f1, f2])) (hone : oneCellFields P #[f0, f1, f2] = true) (hC : P.cellsOf t = 3)
    (hv : Value.okWide P w r b0 t v) (h : DataW.Trod enc P w base spare held t v d p) :
    ∃ (v0 v1 v2 : Value) (y0 y1 y2 : DataW H × List MemPlace) (n : Nat), v = .agg #[v0, v1, v2] ∧
      DataW.trod enc P w base spare held n f0.type [v0] = some y0 ∧ DataW.trod enc P w base spare held n f1.type [v1] = some y1 ∧ DataW.trod enc P w base spare held n f2.type [v2] = some y2 := by
  obtain ⟨cs, rfl, hsz⟩ := okWide_struct hs hv
  obtain ⟨l⟩ := cs
  match l, hsz.trans hC with
  | [c0, c1, c2], _ =>
    obtain ⟨fuel, hf⟩ := h
    obtain ⟨xs, n, _, hx, _, hlen, hg⟩ := DataW.trod_struct hs hf
    obtain ⟨o0, k0⟩ := hone_of hone 0 f0 rfl
    obtain ⟨o1, k1⟩ := hone_of hone 1 f1 rfl
    obtain ⟨o2, k2⟩ := hone_of hone 2 f2 rfl
    match xs, hlen with
    | [y0, y1, y2], _ =>
      exact ⟨c0, c1, c2, y0, y1, y2, n, rfl, by simpa [Value.cells, o0, k0] using hg 0 f0 rfl, by simpa [Value.cells, o1, k1] using hg 1 f1 rfl, by simpa [Value.cells, o2, k2] using hg 2 f2 rfl⟩
theorem open_tok {r : Reach} {b0 : Nat} {t : TypeId} {f0 f1 f2 : Field} {v : Value} {d : DataW H} {p : List MemPlace} (hs : P.underlying t = some (.struct #[f0, f1, f2])) (hone : oneCellFields P #[f0, f1, f2] = true) (hC : P.cellsOf t = 3)
    (t0 : P.underlying f0.type = some (.int .u8)) (t1 : P.underlying f1.type = some (.int .i64)) (t2 : P.underlying f2.type = some (.int .i64))
    (hv : Value.okWide P w r b0 t v) (h : DataW.Trod enc P w base spare held t v d p) :
    ∃ (a0 a1 a2 : Int), v = .agg #[.int .u8 a0, .int .i64 a1, .int .i64 a2] := by
  obtain ⟨v0, v1, v2, y0, y1, y2, n, rfl, h0, h1, h2⟩ := open_agg3 hs hone hC hv h
  obtain ⟨n0, e0, -, -⟩ := DataW.trod_int t0 h0
  obtain ⟨n1, e1, -, -⟩ := DataW.trod_int t1 h1
  obtain ⟨n2, e2, -, -⟩ := DataW.trod_int t2 h2
  simp only [List.cons.injEq, and_true] at e0 e1 e2
  subst e0 e1 e2
  exact ⟨n0, n1, n2, rfl⟩
end
end Go.Proofs.YtjbedcgacnnanaaDoor

namespace Go.Proofs.YtjbedcgacnnanaaDoor
open Go.Joins Go.ChangeShapes Go.WideShapes Go.RowKit Go.Deep

/-- a turn's two cells -/
def turnC (t : Nat × Nat) : List Value := [.int .u16 (t.1 : Int), .int .u8 (t.2 : Int)]
def turnsC (l : List (Nat × Nat)) : List Value := (l.map turnC).flatten
theorem turnsC_cons (a : Nat × Nat) (l : List (Nat × Nat)) : turnsC (a :: l) = turnC a ++ turnsC l := by simp [turnsC]
theorem turnsC_len : ∀ l : List (Nat × Nat), (turnsC l).length = l.length * 2
  | [] => rfl
  | a :: l => by rw [turnsC_cons, List.length_append, turnsC_len l]; simp only [turnC, List.length_cons, List.length_nil]; omega
theorem turnsC_at : ∀ (l : List (Nat × Nat)) (j f : Nat) (h : j < l.length), f < 2 → (turnsC l)[j * 2 + f]? = (turnC l[j])[f]?
  | a :: l, 0, f, _, hf => by
    rw [turnsC_cons, Nat.zero_mul, Nat.zero_add, List.getElem?_append_left (by simp only [turnC, List.length_cons, List.length_nil]; omega)]
    rfl
  | a :: l, j+1, f, h, hf => by
    rw [turnsC_cons, List.getElem?_append_right (by simp only [turnC, List.length_cons, List.length_nil]; omega)]
    rw [show (j + 1) * 2 + f - (turnC a).length = j * 2 + f by simp only [turnC, List.length_cons, List.length_nil]; omega]
    exact turnsC_at l j f (by simpa using h) hf
theorem turn_cells {w : World} {B n : Nat} {A : Option Addr} {l : List (Nat × Nat)} (h : Reads w B 2 A n (turnsC l)) (j : Nat) (hj : j < l.length) : ∃ ad, A = some ad ∧ ad.block < B ∧ w.cell? (ad.add (j * 2)) = some (.int .u16 ((l[j].1 : Nat) : Int)) ∧ w.cell? ((ad.add (j * 2)).add 1) = some (.int .u8 ((l[j].2 : Nat) : Int)) := by
  have hl := h.1
  rw [turnsC_len] at hl
  obtain ⟨ad, hA, hb, hc⟩ := h.2 (by omega)
  have h0 := turnsC_at l j 0 hj (by omega)
  have h1 := turnsC_at l j 1 hj (by omega)
  have c0 := hc _ _ h0
  have c1 := hc _ _ h1
  rw [← add_of_add] at c1
  exact ⟨ad, hA, hb, c0, c1⟩
section
variable {H : Type} {enc : TypeId × Value → H} {P : Program} {w : World} {base : Nat} {spare : Nat → Bool} {held : Bool}
theorem open_shape {r : Reach} {b0 : Nat} {t : TypeId} {f0 f1 f2 : Field} {v : Value} {d : DataW H} {p : List MemPlace} (hs : P.underlying t = some (.struct #[f0, f1, f2])) (hone : oneCellFields P #[f0, f1, f2] = true) (hC : P.cellsOf t = 3)
    (t0 : P.underlying f0.type = some (.int .u8)) (t1 : P.underlying f1.type = some (.int .u8)) (t2 : P.underlying f2.type = some (.int .u8))
    (hv : Value.okWide P w r b0 t v) (h : DataW.Trod enc P w base spare held t v d p) :
    ∃ (a0 a1 a2 : Nat), v = .agg #[.int .u8 a0, .int .u8 a1, .int .u8 a2] ∧ (a0 < 256 ∧ a1 < 256 ∧ a2 < 256) := by
  obtain ⟨v0, v1, v2, y0, y1, y2, n, rfl, h0, h1, h2⟩ := open_agg3 hs hone hC hv h
  obtain ⟨n0, e0, -, w0⟩ := DataW.trod_int t0 h0
  obtain ⟨n1, e1, -, w1⟩ := DataW.trod_int t1 h1
  obtain ⟨n2, e2, -, w2⟩ := DataW.trod_int t2 h2
  simp only [List.cons.injEq, and_true] at e0 e1 e2
  subst e0 e1 e2
  obtain ⟨m0, rfl, b0⟩ := nat_u8 w0
  obtain ⟨m1, rfl, b1⟩ := nat_u8 w1
  obtain ⟨m2, rfl, b2⟩ := nat_u8 w2
  exact ⟨m0, m1, m2, rfl, b0, b1, b2⟩
theorem open_turns {r : Reach} {b0 : Nat} {t e : TypeId} {f0 f1 : Field} {v : Value} {d : DataW H} {p : List MemPlace} (ht : P.underlying t = some (.slice e)) (he : P.underlying e = some (.struct #[f0, f1]))
    (ce : P.cellsOf e = 2) (o0 : f0.offset = 0) (o1 : f1.offset = 1) (c0 : P.cellsOf f0.type = 1) (c1 : P.cellsOf f1.type = 1)
    (t0 : P.underlying f0.type = some (.int .u16)) (t1 : P.underlying f1.type = some (.int .u8))
    (hv : Value.okWide P w r b0 t v) (h : DataW.Trod enc P w 0 (fun _ => true) true t v d p) :
    ∃ (A : Option Addr) (n c : Nat) (l : List (Nat × Nat)), v = .slice A n c ∧ n ≤ c ∧ c ≤ maxLen ∧ (Reads w w.heap.size 2 A n (turnsC l) ∧ ∀ t ∈ l, t.1 < 65536 ∧ t.2 < 256) := by
  obtain ⟨A, n, c, rfl⟩ := okWide_slice ht hv
  obtain ⟨fuel, hf⟩ := h
  rcases open_slice ht hf with ⟨hcs, _⟩ | ⟨a, len, cap, m, n', D, Pl, hcs, hb, hl, hm, hmm, _, hx⟩
  · simp [Value.cells] at hcs
    obtain ⟨rfl, rfl, rfl⟩ := hcs
    exact ⟨none, 0, 0, [], rfl, Nat.le_refl _, by simp, Reads.none_, fun t ht => by cases ht⟩
  · simp [Value.cells] at hcs
    obtain ⟨rfl, rfl, rfl⟩ := hcs
    have hlm : n ≤ m := by rw [hmm]; split <;> omega
    have each : ∀ i, i < n → ∃ q : Nat × Nat, w.cell? (a.add (i * 2)) = some (.int .u16 (q.1 : Int)) ∧ w.cell? (a.add (i * 2 + 1)) = some (.int .u8 (q.2 : Int)) ∧ q.1 < 65536 ∧ q.2 < 256 := by
      intro i hi
      obtain ⟨cs', h1, h2⟩ := hx i (by omega)
      rw [ce] at h1
      obtain ⟨_, hlen, hcell⟩ := World.cells?_some h1
      obtain ⟨xs, k, hk, hxy, _, hxl, hfl⟩ := DataW.trod_struct he h2
      match xs, hxl, cs', hlen with
      | [y0, y1], _, [v0, v1], _ =>
        have g0 := hfl 0 f0 rfl
        have g1 := hfl 1 f1 rfl
        simp [o0, o1, c0, c1] at g0 g1
        obtain ⟨z0, e0, -, w0⟩ := DataW.trod_int t0 g0
        obtain ⟨z1, e1, -, w1⟩ := DataW.trod_int t1 g1
        simp only [List.cons.injEq, and_true] at e0 e1
        subst e0 e1
        obtain ⟨m0, rfl, b0⟩ := nat_u16 w0
        obtain ⟨m1, rfl, b1⟩ := nat_u8 w1
        have q0 := hcell 0 (by omega)
        have q1 := hcell 1 (by omega)
        rw [add_add] at q0 q1
        exact ⟨(m0, m1), by simpa using q0, by simpa using q1, b0, b1⟩
    obtain ⟨q, hq⟩ := choose_lt each
    refine ⟨some a, n, _, (List.range n).map q, rfl, hl, hm, ⟨by rw [turnsC_len]; simp, fun hn => ?_⟩, fun t ht => ?_⟩
    · have h0 := (hq 0 hn).1
      refine ⟨a, rfl, by have := lt_of_cell h0; rwa [block_of_add] at this, fun j u hu => ?_⟩
      have hj : j < n * 2 := by
        have := (List.getElem?_eq_some_iff.1 hu).1
        rw [turnsC_len] at this; simpa using this
      have hi : j / 2 < ((List.range n).map q).length := by simp; omega
      have hat := turnsC_at ((List.range n).map q) (j / 2) (j % 2) hi (by omega)
      have hjj : j / 2 * 2 + j % 2 = j := by omega
      rw [hjj, hu] at hat
      have hqi := hq (j / 2) (by omega)
      have hel : ((List.range n).map q)[j / 2] = q (j / 2) := by simp
      rw [hel] at hat
      have hr : j % 2 = 0 ∨ j % 2 = 1 := by omega
      rcases hr with hr | hr
      · rw [hr] at hat hjj
        rw [← hjj, hat]; exact hqi.1
      · rw [hr] at hat hjj
        rw [← hjj, hat]; exact hqi.2.1
    · obtain ⟨i, hi, rfl⟩ := List.mem_map.1 ht
      exact (hq i (List.mem_range.1 hi)).2.2
end
end Go.Proofs.YtjbedcgacnnanaaDoor
