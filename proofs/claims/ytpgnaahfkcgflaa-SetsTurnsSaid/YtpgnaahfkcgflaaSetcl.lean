/-
  A clone of a list of lists, walked.
-/
import Derived.Test.YtpgnaahfkcgflaaSetmg
import Derived.Test.YtpgnaahfkcgflaaMid
namespace Go.Proofs.Ytpgnaahfkcgflaa
set_option linter.unusedSimpArgs false
set_option linter.unusedVariables false
open Go.RowKit

theorem info_sl : (Try.prog.info? 25).map (fun i => (i.zero, i.size, i.bytes)) = some (some (.slice none 0 0), 1, 24) := by kernel_rfl
set_option maxRecDepth 100000 in
theorem cloneR_any (A : Option Addr) (n c B : Nat) (vs : List Value) (w : World) (h : Reads w B 1 A n (vs)) (hB : B ≤ w.heap.size) (hn : n ≤ 1000000) (h1c : ∀ u ∈ vs, u.oneCell' = true) :
    Calls Try.prog 34 #[.slice A n c] w (SlRet 25 w n (vs)) := by
  have he := fun W => Lib.run_eql_slice_nil (P := Try.prog) W 22 25 A n c 0 0 Try.underlying22
  obtain ⟨i0, hi, hz0, hz1, hz2⟩ := info_parts info_sl
  replace hi := Lib.hid hi; replace hz0 := Lib.hid hz0; replace hz1 := Lib.hid hz1; replace hz2 := Lib.hid hz2
  have H := Lib.hid h
  cases A with
  | none =>
    have h0 : n = 0 := by
      rcases Nat.eq_zero_or_pos n with h0 | h0
      · exact h0
      · obtain ⟨ad, he, _⟩ := h.2 h0; cases he
    have hx : vs = [] := List.eq_nil_of_length_eq_zero (by have := h.1; omega)
    subst h0
    subst hx
    simp only [Option.isNone] at he
    clear h hB hn h1c
    go_enter Try.func34, Try.ntmps34
    go_wp2_with fail
    go_ret
    exact ⟨none, 0, rfl, Fresh.nil w _⟩
  | some ad =>
    simp only [Option.isNone] at he
    clear h
    go_enter Try.func34, Try.ntmps34
    go_wp2_with (at_builtin; refine wpList_append_any _ rfl (.tmp 5) (.tmp 6) 22 rfl w.heap.size 25 i0 (.slice none 0 0) 1 24 Try.underlying22 hi.out hz0.out hz1.out hz2.out rfl (by omega) (some ⟨w.heap.size, 0, none⟩) 0 0 [] rfl (own_empty w _ _ (Nat.le_refl _)) B (some ad) n c _ rfl (H.out.alloc hB _) h1c ?_ ?_ ?_ ?_; rotate_left 3; intro A1 c1 w2 ho1 hg1 _hs1; have HB2 := Lib.hid (below_app (below_allocI (Below.refl _ _) _) hg1 (own_empty w _ _ (Nat.le_refl _)) (below_allocI (Below.refl _ w) _).size); replace ho1 := Lib.hid ho1; clear hg1 _hs1)
    rotate_left 1
    · unfold maxLen; omega
    · omega
    · exact (below_allocI (Below.refl _ w) _).size
    go_ret
    refine ⟨A1, c1, by simp, ?_, HB2.out⟩
    have h := ho1.out
    simpa using h


end Go.Proofs.Ytpgnaahfkcgflaa
