/-
  A variable of a matrix in memory: for the laws' walks.
-/
import Derived.Test.YtbokbndphpdgoaaMatmb
namespace Go.Proofs.Ytbokbndphpdgoaa
set_option linter.unusedSimpArgs false
set_option linter.unusedVariables false
open Go.RowKit

/-- a matrix' variable at block g -/
structure MB (W : World) (g : Nat) (r c : Int) (A : Option Addr) (n k : Nat) (xs : List UInt8) : Prop where
  blk : Blk W g 24 #[.int .i64 r, .int .i64 c, .slice A n k]
  rd : Reads W W.heap.size 1 A n (xs.map B8)
  cap : n ≤ k
theorem MB.below {W W' : World} {g : Nat} {r c : Int} {A : Option Addr} {n k : Nat} {xs : List UInt8} (h : MB W g r c A n k xs) (hB : Below W.heap.size W W') : MB W' g r c A n k xs :=
  ⟨h.blk.below hB h.blk.lt, (h.rd.below hB).more hB.size, h.cap⟩
theorem MB.alloc {W : World} {g : Nat} {r c : Int} {A : Option Addr} {n k : Nat} {xs : List UInt8} (h : MB W g r c A n k xs) (o : Obj) : MB (W.alloc o) g r c A n k xs :=
  h.below ((Below.refl _ _).alloc (Nat.le_refl _) o)
theorem MB.new {W : World} {r c : Int} {A : Option Addr} {n k : Nat} {xs : List UInt8} (h : Reads W W.heap.size 1 A n (xs.map B8)) (hk : n ≤ k) : MB (W.alloc (.cells #[.int .i64 r, .int .i64 c, .slice A n k] 24)) W.heap.size r c A n k xs :=
  ⟨Blk.new W _ _, (h.alloc (Nat.le_refl _) _).more (by simp), hk⟩
theorem MB.cells {W : World} {g : Nat} {r c : Int} {A : Option Addr} {n k : Nat} {xs : List UInt8} (h : MB W g r c A n k xs) : W.cell? ⟨g, 0, none⟩ = some (.int .i64 r) ∧ W.cell? ⟨g, 1, none⟩ = some (.int .i64 c) ∧ W.cell? ⟨g, 2, none⟩ = some (.slice A n k) :=
  ⟨h.blk.cell 0, h.blk.cell 1, h.blk.cell 2⟩
theorem MB.len {W : World} {g : Nat} {r c : Int} {A : Option Addr} {n k : Nat} {xs : List UInt8} (h : MB W g r c A n k xs) : xs.length = n := h.rd.len
/-- the same matrices: for a call of Same on two variables -/
theorem same_box {W : World} {g g' : Nat} {r c : Int} {A A' : Option Addr} {n k n' k' : Nat} {xs : List UInt8} (h1 : MB W g r c A n k xs) (h2 : MB W g' r c A' n' k' xs) :
    Calls Try.prog 19 #[.agg #[.int .i64 r, .int .i64 c, .slice A n k], .agg #[.int .i64 r, .int .i64 c, .slice A' n' k']] W fun e w' => e = .returned (.bool true) ∧ Below W.heap.size W w' :=
  sameM_any r c A A' n k n' k' xs W h1.rd h2.rd
/-- what a call of a matrix' result gives: its reading and room -/
theorem mret_parts {w w' : World} {A : Option Addr} {n k : Nat} {xs : List Value} (h : w'.ownsRow w.heap.size 5 1 (.slice A n k) n xs) : Reads w' w'.heap.size 1 A n xs ∧ n ≤ k := ⟨Reads.of_own h, (own_cap h).1⟩
end Go.Proofs.Ytbokbndphpdgoaa
