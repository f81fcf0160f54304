/-
  An element of an array by value.
-/
import Derived.WalkKit
import Derived.Laws.PanicsMore
namespace Go.Proofs.YtejbfndcaiphoaaDoor
open Go.RowKit

theorem run_index_cells {P : Program} {w : World} (t e : TypeId) (n : Nat) (cs : Array Value) (k : IntKind) (i : Nat) (u : Value) (h : P.underlying t = some (.array n e)) (hi : i < n) (hs : (P.info? e).map (·.size) = some 1) (hu : cs[i]? = some u) (ht : P.underlying e = some (.int .u32)) :
    (Instr.index t (.agg cs) (.int k i)).run P w = .ok u w := by
  have hn : (0 : Int) ≤ (i : Int) ∧ (i : Int) < (n : Int) := by omega
  obtain ⟨inf, h1, h2⟩ : ∃ inf, P.info? e = some inf ∧ inf.size = 1 := by
    cases hq : P.info? e with
    | none => rw [hq] at hs; cases hs
    | some inf => rw [hq] at hs; exact ⟨inf, rfl, by simpa using hs⟩
  simp [Instr.index, run_underlying h, asIntOf, hn, go_sem, sizeOf, typeInfo, h1, h2, part, hu, hi, isAgg, run_underlying ht]
end Go.Proofs.YtejbfndcaiphoaaDoor
