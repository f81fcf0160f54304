/-
  May k and m be; are all as long as each other: walked.
-/
import Derived.Test.YtjbedcgacnnanaaDoorBa
namespace Go.Proofs.YtjbedcgacnnanaaDoor
set_option linter.unusedSimpArgs false
set_option linter.unusedVariables false
open Go.RowKit

namespace Rsp
/-- may k and m be? -/
def may (k m : Int) : Bool := decide (1 ≤ k ∧ 0 ≤ m ∧ k + m ≤ 255)
theorem may_cases (k m : Int) : (k < 1 ∧ may k m = false) ∨ (1 ≤ k ∧ m < 0 ∧ may k m = false) ∨ (1 ≤ k ∧ 0 ≤ m ∧ 255 < k ∧ may k m = false) ∨ (1 ≤ k ∧ 0 ≤ m ∧ k ≤ 255 ∧ 255 < m ∧ may k m = false) ∨ (1 ≤ k ∧ 0 ≤ m ∧ k ≤ 255 ∧ m ≤ 255 ∧ 255 < k + m ∧ may k m = false) ∨ (1 ≤ k ∧ 0 ≤ m ∧ k ≤ 255 ∧ m ≤ 255 ∧ k + m ≤ 255 ∧ may k m = true) := by
  unfold may
  simp only [decide_eq_false_iff_not, decide_eq_true_eq]
  omega
end Rsp
set_option maxRecDepth 100000 in
theorem rsMay_any (k m : Int) (w : World) : Calls Tryd.prog 37 #[.int .i64 k, .int .i64 m] w fun e w' => e = .returned (.bool (Rsp.may k m)) ∧ w = w' := by
  rcases Rsp.may_cases k m with ⟨h1, h2⟩ | ⟨h1, h3, h2⟩ | ⟨h1, h3, h4, h2⟩ | ⟨h1, h3, h4, h5, h2⟩ | ⟨h1, h3, h4, h5, h6, h2⟩ | ⟨h1, h3, h4, h5, h6, h2⟩
  · rw [h2]
    clear h2
    go_enter Tryd.func37, Tryd.ntmps37
    go_wp2_with fail
    go_ret
    exact ⟨by first | rfl | (simp; omega), rfl⟩
  · rw [h2]
    clear h2
    go_enter Tryd.func37, Tryd.ntmps37
    go_wp2_with fail
    go_ret
    exact ⟨by first | rfl | (simp; omega), rfl⟩
  · rw [h2]
    clear h2
    go_enter Tryd.func37, Tryd.ntmps37
    go_wp2_with fail
    go_ret
    exact ⟨by first | rfl | (simp; omega), rfl⟩
  · rw [h2]
    clear h2
    go_enter Tryd.func37, Tryd.ntmps37
    go_wp2_with fail
    go_ret
    exact ⟨by first | rfl | (simp; omega), rfl⟩
  · rw [h2]
    clear h2
    have hs : IntKind.i64.wrap (k + m) = k + m := by
      obtain ⟨s, hs⟩ : ∃ s : Nat, k + m = (s : Int) := ⟨(k + m).toNat, by omega⟩
      rw [hs, IntKind.wrap_i64]; omega
    have b5 : ¬ k + m ≤ 255 := by omega
    have d5 : decide (k + m ≤ 255) = false := decide_eq_false b5
    go_enter Tryd.func37, Tryd.ntmps37
    go_wp2_with fail
    go_ret
    exact ⟨by first | rfl | (simp; omega), rfl⟩
  · rw [h2]
    clear h2
    have hs : IntKind.i64.wrap (k + m) = k + m := by
      obtain ⟨s, hs⟩ : ∃ s : Nat, k + m = (s : Int) := ⟨(k + m).toNat, by omega⟩
      rw [hs, IntKind.wrap_i64]; omega
    go_enter Tryd.func37, Tryd.ntmps37
    go_wp2_with fail
    go_ret
    exact ⟨by first | rfl | (simp; omega), rfl⟩
set_option maxRecDepth 100000 in
theorem rsRefMay_any (k m : Int) (w : World) : Calls Tryd.prog 24 #[.int .i64 k, .int .i64 m] w fun e w' => e = .returned (.bool (Rsp.may k m)) ∧ w = w' := by
  rcases Rsp.may_cases k m with ⟨h1, h2⟩ | ⟨h1, h3, h2⟩ | ⟨h1, h3, h4, h2⟩ | ⟨h1, h3, h4, h5, h2⟩ | ⟨h1, h3, h4, h5, h6, h2⟩ | ⟨h1, h3, h4, h5, h6, h2⟩
  · rw [h2]
    clear h2
    go_enter Tryd.func24, Tryd.ntmps24
    go_wp2_with fail
    go_ret
    exact ⟨by first | rfl | (simp; omega), rfl⟩
  · rw [h2]
    clear h2
    go_enter Tryd.func24, Tryd.ntmps24
    go_wp2_with fail
    go_ret
    exact ⟨by first | rfl | (simp; omega), rfl⟩
  · rw [h2]
    clear h2
    go_enter Tryd.func24, Tryd.ntmps24
    go_wp2_with fail
    go_ret
    exact ⟨by first | rfl | (simp; omega), rfl⟩
  · rw [h2]
    clear h2
    have hs : IntKind.i64.wrap (255 - k) = 255 - k := by
      obtain ⟨s, hs⟩ : ∃ s : Nat, 255 - k = (s : Int) := ⟨(255 - k).toNat, by omega⟩
      rw [hs, IntKind.wrap_i64]; omega
    have h7 : 255 - k < m := by omega
    go_enter Tryd.func24, Tryd.ntmps24
    go_wp2_with fail
    go_ret
    exact ⟨by first | rfl | (simp; omega), rfl⟩
  · rw [h2]
    clear h2
    have hs : IntKind.i64.wrap (255 - k) = 255 - k := by
      obtain ⟨s, hs⟩ : ∃ s : Nat, 255 - k = (s : Int) := ⟨(255 - k).toNat, by omega⟩
      rw [hs, IntKind.wrap_i64]; omega
    have h7 : 255 - k < m := by omega
    go_enter Tryd.func24, Tryd.ntmps24
    go_wp2_with fail
    go_ret
    exact ⟨by first | rfl | (simp; omega), rfl⟩
  · rw [h2]
    clear h2
    have hs : IntKind.i64.wrap (255 - k) = 255 - k := by
      obtain ⟨s, hs⟩ : ∃ s : Nat, 255 - k = (s : Int) := ⟨(255 - k).toNat, by omega⟩
      rw [hs, IntKind.wrap_i64]; omega
    have h7 : m ≤ 255 - k := by omega
    go_enter Tryd.func24, Tryd.ntmps24
    go_wp2_with fail
    go_ret
    exact ⟨by first | rfl | (simp; omega), rfl⟩
end Go.Proofs.YtjbedcgacnnanaaDoor
