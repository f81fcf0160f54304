/-
  Three bytes as a map's key; key and alike walked.
-/
import Derived.Test.YtiakpffmjkkniaaChecked
import Derived.Test.YtiakpffmjkkniaaLzp
import Derived.Test.YtiakpffmjkkniaaMem
import Derived.Test.YtiakpffmjkkniaaAr
import Derived.Test.YtiakpffmjkkniaaApp
import Derived.Maps.OwnSet
import Derived.DeepKeys4
import Derived.Lib.Hide
import Derived.Deep.QuietTactic
import Derived.BigQuiet
import Derived.Deep.RegionHeld3
import Derived.StillTailTactics
namespace Go.Proofs.Ytiakpffmjkkniaa
set_option linter.unusedSimpArgs false
set_option linter.unusedVariables false
open Go.RowKit Go.Maps

theorem below_alloc {w W : World} (h : Below w.heap.size w W) (o : Obj) : Below w.heap.size w (W.alloc o) := h.alloc h.size o
theorem below_then {w W W' : World} (h : Below w.heap.size w W) (h' : Below W.heap.size W W') : Below w.heap.size w W' := h.trans (h'.mono h.size)
theorem laidOutK : laidOutB Try.prog = true := by kernel_rfl
theorem law3 : Keyed Try.prog 52 :=
  Keyed.of_law (deep_law_laid laidOutK (m := 2) (by omega) (of_decide_eq_true (by kernel_rfl)) (by kernel_rfl) (by rw [Try.underlying52]))
/-- three bytes as a value -/
def k3 (k : UInt8 × UInt8 × UInt8) : Value := .agg #[B8 k.1, B8 k.2.1, B8 k.2.2]
/-- three bytes as what the reader makes of them -/
def kl3 (k : UInt8 × UInt8 × UInt8) : Lit := .string (keyBytes [.int .u8 (k.1.toNat : Int), .int .u8 (k.2.1.toNat : Int), .int .u8 (k.2.2.toNat : Int)])
theorem wf8 (a : UInt8) : (Lit.int .u8 (a.toNat : Int)).wf = true := WalkArith.wf_u8 (by have := a.toNat_lt; omega)
theorem key3 (k : UInt8 × UInt8 × UInt8) : keyOf Try.prog 52 (k3 k) = some (kl3 k) := by
  have hk : Try.prog.keyType 52 = true := by kernel_rfl
  have hc : Try.prog.cellsOf 52 = 3 := by kernel_rfl
  have hc1 : Try.prog.cellsOf 5 = 1 := by kernel_rfl
  have hs : Try.prog.types.size + 1 = (Try.prog.types.size - 1) + 1 + 1 := by
    have : 1 ≤ Try.prog.types.size := of_decide_eq_true (by kernel_rfl)
    omega
  have hf : (k3 k).formed Try.prog 52 = true := by simp [Value.formed, Try.underlying52, hc, k3]
  unfold keyOf
  simp only [Try.underlying52, hk, hf, Bool.and_self, if_true]
  rw [hs]
  generalize Try.prog.types.size - 1 = m
  have e1 : ∀ a : UInt8, Try.prog.keyLits (m + 1) 5 [.int .u8 (a.toNat : Int)] = some [.int .u8 (a.toNat : Int)] := fun a => by
    unfold Program.keyLits
    simp only [Try.underlying5, wf8, and_self, if_true]
  have e2 : ∀ cs, Try.prog.keyLits (m + 1 + 1) 52 cs = if cs.length = Try.prog.cellsOf 52 then ((List.range 3).mapM fun i => Try.prog.keyLits (m + 1) 5 ((cs.drop (i * Try.prog.cellsOf 5)).take (Try.prog.cellsOf 5))).map List.flatten else none := fun cs => by
    rw [Program.keyLits]
    exact Try.underlying52
  rw [e2, hc, hc1]
  simp [k3, Value.cells, B8, e1, List.range_succ, kl3]
theorem kl3_inj {k k' : UInt8 × UInt8 × UInt8} (h : kl3 k = kl3 k') : k = k' := by
  have h2 := law3.inj (key3 k) (by rw [h]; exact key3 k')
  unfold k3 B8 at h2
  simp only [Value.agg.injEq, Array.mk.injEq, List.cons.injEq, Value.int.injEq, true_and, and_true] at h2
  obtain ⟨h3, h4, h5⟩ := h2
  have e1 := UInt8.toNat_inj.1 (show k.1.toNat = k'.1.toNat by omega)
  have e2 := UInt8.toNat_inj.1 (show k.2.1.toNat = k'.2.1.toNat by omega)
  have e3 := UInt8.toNat_inj.1 (show k.2.2.toNat = k'.2.2.toNat by omega)
  exact Prod.ext e1 (Prod.ext e2 e3)
theorem kl3_key (k : UInt8 × UInt8 × UInt8) : WideAt.IsKeyLit (kl3 k) := law3.key (key3 k)

/-- the map of last places -/
def places (b : List UInt8) : Nat → DataW Unit
  | 0 => .map []
  | m+1 => if m + 3 ≤ b.length then (places b m).put (kl3 (Lzp.key b m)) (.lit (.int .i64 (m : Int))) else places b m
theorem places_map (b : List UInt8) : ∀ m, IsMap (places b m)
  | 0 => isMap_empty
  | m+1 => by
    unfold places
    split
    · exact (places_map b m).put _ _
    · exact places_map b m
theorem places_look (b : List UInt8) (k : UInt8 × UInt8 × UInt8) : ∀ m, Maps.has (places b m) (kl3 k) = (Lzp.last b m k).isSome ∧ (places b m).atKey (kl3 k) (.lit (.int .i64 0)) = .lit (.int .i64 (((Lzp.last b m k).getD 0 : Nat) : Int))
  | 0 => ⟨rfl, rfl⟩
  | m+1 => by
    have ih := places_look b k m
    unfold places Lzp.last
    by_cases hm : m + 3 ≤ b.length
    · rw [if_pos hm]
      by_cases hk : Lzp.key b m = k
      · rw [if_pos ⟨hm, hk⟩, hk]
        exact ⟨has_put_same (places_map b m) (kl3_key k) _, atKey_put_same (places_map b m) (kl3_key k) _ _⟩
      · rw [if_neg (fun h => hk h.2)]
        have hne : kl3 k ≠ kl3 (Lzp.key b m) := fun h => hk (kl3_inj h).symm
        rw [has_put_other hne, atKey_put_other hne]
        exact ih
    · rw [if_neg hm, if_neg (fun h => hm h.1)]
      exact ih
end Go.Proofs.Ytiakpffmjkkniaa
