/-
  slices.Clone over bytes, walked.
-/
import Derived.Test.YtbokbndphpdgoaaMatv
import Derived.Lib.Hide
import Derived.WalkSpells
import Derived.Deep.QuietTactic
import Derived.BigQuiet
import Derived.Outline
namespace Go.Proofs.Ytbokbndphpdgoaa
set_option linter.unusedSimpArgs false
set_option linter.unusedVariables false
open Go.RowKit

/-- a fresh slice is handed back -/
def SlRet (E : TypeId) (w : World) (n : Nat) (r : List Value) (e : Ending) (w' : World) : Prop := ∃ A c, e = .returned (.slice A n c) ∧ Fresh w w' E A n c r

theorem info_b : (Try.prog.info? 5).map (fun i => (i.zero, i.size, i.bytes)) = some (some (.int .u8 0), 1, 1) := by kernel_rfl
theorem b8_one (l : List UInt8) : ∀ u ∈ l.map B8, u.oneCell' = true := by
  intro u hu
  obtain ⟨b, _, rfl⟩ := List.mem_map.1 hu
  rfl
/-- an empty slice that is not nil is owned -/
theorem own_empty (w : World) (base : Nat) (e : TypeId) (hb : base ≤ w.heap.size) : (w.alloc (.cells #[] e)).ownsRow base e 1 (.slice (some ⟨w.heap.size, 0, none⟩) 0 0) 0 [] :=
  World.ownsRow_made w #[] 0 hb (by unfold maxLen; omega) (by simp)

set_option maxRecDepth 100000 in
theorem clone_any (A : Option Addr) (n c B : Nat) (xs : List UInt8) (w : World) (h : Reads w B 1 A n (xs.map B8)) (hB : B ≤ w.heap.size) (hn : n ≤ 140737488355328) :
    Calls Try.prog 49 #[.slice A n c] w (SlRet 5 w n (xs.map B8)) := by
  have he := fun W => Lib.run_eql_slice_nil (P := Try.prog) W 22 5 A n c 0 0 Try.underlying22
  obtain ⟨i0, hi, hz0, hz1, hz2⟩ := info_parts info_b
  replace hi := Lib.hid hi; replace hz0 := Lib.hid hz0; replace hz1 := Lib.hid hz1; replace hz2 := Lib.hid hz2
  have H := Lib.hid h
  cases A with
  | none =>
    have h0 : n = 0 := by
      rcases Nat.eq_zero_or_pos n with h0 | h0
      · exact h0
      · obtain ⟨ad, he, _⟩ := h.2 h0; cases he
    have hx : xs = [] := List.eq_nil_of_length_eq_zero (by have := h.len; omega)
    subst h0
    subst hx
    simp only [Option.isNone] at he
    clear h hB hn
    go_enter Try.func49, Try.ntmps49
    go_wp2_with fail
    go_ret
    exact ⟨none, 0, rfl, Fresh.nil w _⟩
  | some ad =>
    simp only [Option.isNone] at he
    clear h
    go_enter Try.func49, Try.ntmps49
    go_wp2_with (at_builtin; refine wpList_append_any _ rfl (.tmp 5) (.tmp 6) 22 rfl w.heap.size 5 i0 (.int .u8 0) 1 1 Try.underlying22 hi.out hz0.out hz1.out hz2.out rfl (by omega) (some ⟨w.heap.size, 0, none⟩) 0 0 [] rfl (own_empty w _ _ (Nat.le_refl _)) B (some ad) n c _ rfl (H.out.alloc hB _) (b8_one _) ?_ ?_ ?_ ?_; rotate_left 3; intro A1 c1 w2 ho1 hg1 _hs1; have HB2 := Lib.hid (below_app (below_alloc (Below.refl _ _) _) hg1 (own_empty w _ _ (Nat.le_refl _)) (below_alloc (Below.refl _ w) _).size); replace ho1 := Lib.hid ho1; clear hg1 _hs1)
    rotate_left 1
    · unfold maxLen; omega
    · omega
    · exact (below_alloc (Below.refl _ w) _).size
    go_ret
    refine ⟨A1, c1, by simp, ?_, HB2.out⟩
    have h := ho1.out
    simpa using h

end Go.Proofs.Ytbokbndphpdgoaa
