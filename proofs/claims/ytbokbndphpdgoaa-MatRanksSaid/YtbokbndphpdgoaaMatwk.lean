/-
  A matrix whose rows are changed: row, swap, add: walked.
-/
import Derived.Test.YtbokbndphpdgoaaMatcl
import Derived.Test.YtbokbndphpdgoaaLin3
namespace Go.Proofs.Ytbokbndphpdgoaa
set_option linter.unusedSimpArgs false
set_option linter.unusedVariables false
open Go.RowKit

theorem grown_trans {a b c : World} {row : Option Nat} (h : a.grownBy b row) (k : b.grownBy c row) : a.grownBy c row :=
  ⟨k.os.trans h.os, k.tape.trans h.tape, k.output.trans h.output, Nat.le_trans h.size k.size, fun j hj hr => (k.block j (Nat.lt_of_lt_of_le hj h.size) hr).trans (h.block j hj hr)⟩
theorem grown_below {a b : World} (h : Below a.heap.size a b) (row : Option Nat) : a.grownBy b row := ⟨h.os, h.tape, h.output, h.size, fun j hj _ => h.block j hj⟩
/-- the slots of a matrix at the offset o of block g, its cells the call's own -/
structure Wk (W : World) (base g o R C : Nat) (A : Option Addr) (n k : Nat) (f : Nat → Nat → UInt8) : Prop where
  c0 : W.cell? ⟨g, o, none⟩ = some (.int .i64 R)
  c1 : W.cell? ⟨g, o + 1, none⟩ = some (.int .i64 C)
  c2 : W.cell? ⟨g, o + 2, none⟩ = some (.slice A n k)
  own : W.ownsRow base 5 1 (.slice A n k) n ((cellsTo C f (R * C)).map B8)
  hg : g < W.heap.size
  ne : A.map (·.block) ≠ some g
  bs : base ≤ W.heap.size
theorem Wk.grown {W W' : World} {base g o R C n k : Nat} {A : Option Addr} {f : Nat → Nat → UInt8} (h : Wk W base g o R C A n k f) {row : Option Nat} (hg : W.grownBy W' row) (h1 : row ≠ some g) (h2 : ∀ a, A = some a → row ≠ some a.block) : Wk W' base g o R C A n k f :=
  have hc : ∀ p : Addr, p.block = g → W'.cell? p = W.cell? p := fun p hp => World.cell?_of_block (by rw [hp]; exact hg.block g h.hg (Ne.symm h1))
  ⟨(hc _ rfl).trans h.c0, (hc _ rfl).trans h.c1, (hc _ rfl).trans h.c2, ownsRow_block h.own (fun a ha => hg.block _ (by
    have := own_row h.own a.block (by rw [ha]; rfl)
    obtain ⟨cs, fr, hh⟩ := this
    exact lt_of_heap hh) (Ne.symm (h2 a ha))), Nat.lt_of_lt_of_le h.hg hg.size, h.ne, Nat.le_trans h.bs hg.size⟩
theorem Wk.below {W W' : World} {base g o R C n k : Nat} {A : Option Addr} {f : Nat → Nat → UInt8} (h : Wk W base g o R C A n k f) (hB : Below W.heap.size W W') : Wk W' base g o R C A n k f :=
  h.grown (grown_below hB none) (by simp) (fun a _ => by simp)
/-- the cells are others now -/
theorem Wk.turn {W W' : World} {base g o R C n k : Nat} {A : Option Addr} {f f' : Nat → Nat → UInt8} (h : Wk W base g o R C A n k f) (hg : W.grownBy W' (A.map (·.block))) (ho : W'.ownsRow base 5 1 (.slice A n k) n ((cellsTo C f' (R * C)).map B8)) : Wk W' base g o R C A n k f' :=
  have hc : ∀ p : Addr, p.block = g → W'.cell? p = W.cell? p := fun p hp => World.cell?_of_block (by rw [hp]; exact hg.block g h.hg (Ne.symm h.ne))
  ⟨(hc _ rfl).trans h.c0, (hc _ rfl).trans h.c1, (hc _ rfl).trans h.c2, ho, Nat.lt_of_lt_of_le h.hg hg.size, h.ne, Nat.le_trans h.bs hg.size⟩
theorem Wk.eqf {W : World} {base g o R C n k : Nat} {A : Option Addr} {f f' : Nat → Nat → UInt8} (h : Wk W base g o R C A n k f) (e : ∀ i j, i < R → j < C → f i j = f' i j) : Wk W base g o R C A n k f' :=
  { h with own := by rw [← cellsTo_congr R C f f' e]; exact h.own }
theorem Wk.len {W : World} {base g o R C n k : Nat} {A : Option Addr} {f : Nat → Nat → UInt8} (h : Wk W base g o R C A n k f) : n = R * C ∧ n ≤ k := by
  have := h.own.1
  rw [List.length_map, cellsTo_len] at this
  exact ⟨by omega, (own_cap h.own).1⟩
theorem Wk.reads {W : World} {base g o R C n k : Nat} {A : Option Addr} {f : Nat → Nat → UInt8} (h : Wk W base g o R C A n k f) {i : Nat} (hi : i < R) : Reads W W.heap.size 1 (cutA A k (i * C) 1) C ((rowF C (f i)).map B8) := by
  have := row_reads (i := i) (Reads.of_own h.own) h.len.1 hi h.len.2
  rw [rowC_cellsTo R C i f hi] at this
  exact this

set_option maxRecDepth 100000 in
theorem wrow_any {w : World} {base g o R C n k : Nat} {A : Option Addr} {f : Nat → Nat → UInt8} (h : Wk w base g o R C A n k f) (ho : o = 0 ∨ o = 3) (i : Nat) (hR : R ≤ 255) (hC : C ≤ 255) (hi : i < R) :
    Calls Try.prog 50 #[.pointer (some ⟨g, o, none⟩), .int .i64 i] w fun e w' => e = .returned (.slice (cutA A k (i * C) 1) C (k - i * C)) ∧ Below w.heap.size w w' := by
  have RW := Lib.hid (fun W => row_any R C i A n k W hR hC hi h.len.1 h.len.2)
  have c0 := h.c0
  have c1 := h.c1
  have c2 := h.c2
  have hg := h.hg
  clear h
  rcases ho with rfl | rfl
  · simp only [Nat.zero_add] at c1 c2
    go_enter Try.func50, Try.ntmps50
    go_wp2_with fail
    refine (RW.out _).mono ?_; rintro e w' ⟨rfl, hB⟩
    go_wp2_with fail
    go_ret
    exact ⟨rfl, hB⟩
  · simp only [Nat.reduceAdd] at c1 c2
    go_enter Try.func50, Try.ntmps50
    go_wp2_with fail
    refine (RW.out _).mono ?_; rintro e w' ⟨rfl, hB⟩
    go_wp2_with fail
    go_ret
    exact ⟨rfl, hB⟩
end Go.Proofs.Ytbokbndphpdgoaa
