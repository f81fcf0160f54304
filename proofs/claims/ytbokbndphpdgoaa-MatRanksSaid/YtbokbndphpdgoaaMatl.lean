/-
  May and Same of matrices; the document's example; the law MatMay.
-/
import Derived.Test.YtbokbndphpdgoaaMatz
namespace Go.Proofs.Ytbokbndphpdgoaa
set_option linter.unusedSimpArgs false
set_option linter.unusedVariables false
open Go.RowKit

theorem below_alloc {w W : World} (h : Below w.heap.size w W) (o : Obj) : Below w.heap.size w (W.alloc o) := h.alloc h.size o
theorem below_then {w W W' : World} (h : Below w.heap.size w W) (h' : Below W.heap.size W W') : Below w.heap.size w W' := h.trans (h'.mono h.size)

set_option maxRecDepth 100000 in
theorem may_any (r c : Int) (A : Option Addr) (n k : Nat) (w : World) : Calls Try.prog 15 #[.agg (mC r c (.slice A n k))] w fun e w' => e = .returned (.bool (Matp.may r c n)) ∧ Below w.heap.size w w' := by
  have W1 := fun w => Lib.hid (within_any r w)
  have W2 := fun w => Lib.hid (within_any c w)
  have hb : ∀ o, Below w.heap.size w (w.alloc o) := fun o => (Below.refl _ _).alloc (Nat.le_refl _) o
  replace hb := Lib.hid hb
  unfold mC
  by_cases h1 : 0 ≤ r ∧ r ≤ 255
  · rw [show Matp.wi r = true by unfold Matp.wi; simpa using h1] at W1
    by_cases h2 : 0 ≤ c ∧ c ≤ 255
    · rw [show Matp.wi c = true by unfold Matp.wi; simpa using h2] at W2
      obtain ⟨r, rfl⟩ : ∃ m : Nat, r = (m : Int) := ⟨r.toNat, by omega⟩
      obtain ⟨c, rfl⟩ : ∃ m : Nat, c = (m : Int) := ⟨c.toNat, by omega⟩
      have hrc : r * c ≤ 65025 := rc_le (by omega) (by omega)
      have hmul : (r : Int) * (c : Int) = ((r * c : Nat) : Int) := (Int.natCast_mul r c).symm
      have hv : Hid (Matp.may r c n = ((n : Int) == ((r * c : Nat) : Int))) := by
        unfold Matp.may Hid
        rw [Bool.eq_iff_iff, decide_eq_true_eq, beq_iff_eq, hmul]
        exact ⟨fun h => h.2.2, fun h => ⟨h1, h2, h⟩⟩
      rw [hv.out]
      clear hv h1 h2
      generalize r * c = rc at *
      go_enter Try.func15, Try.ntmps15
      go_wp2_with fail
      refine (W1 _).out.mono ?_; rintro e w' ⟨rfl, rfl⟩
      go_wp2_with fail
      refine (W2 _).out.mono ?_; rintro e w' ⟨rfl, rfl⟩
      go_wp2_with fail
      go_ret
      exact ⟨rfl, hb.out _⟩
    · have hv : Hid (Matp.may r c n = false) := by
        unfold Matp.may; rw [Hid, decide_eq_false_iff_not]; exact fun h => h2 h.2.1
      rw [show Matp.wi c = false by unfold Matp.wi; simpa using h2] at W2
      rw [hv.out]
      clear hv h1 h2
      go_enter Try.func15, Try.ntmps15
      go_wp2_with fail
      refine (W1 _).out.mono ?_; rintro e w' ⟨rfl, rfl⟩
      go_wp2_with fail
      refine (W2 _).out.mono ?_; rintro e w' ⟨rfl, rfl⟩
      go_wp2_with fail
      go_ret
      exact ⟨rfl, hb.out _⟩
  · have hv : Hid (Matp.may r c n = false) := by
      unfold Matp.may; rw [Hid, decide_eq_false_iff_not]; exact fun h => h1 h.1
    rw [show Matp.wi r = false by unfold Matp.wi; simpa using h1] at W1
    rw [hv.out]
    clear hv h1 W2
    go_enter Try.func15, Try.ntmps15
    go_wp2_with fail
    refine (W1 _).out.mono ?_; rintro e w' ⟨rfl, rfl⟩
    go_wp2_with fail
    go_ret
    exact ⟨rfl, hb.out _⟩

set_option maxRecDepth 100000 in
theorem refMay_any (r c : Int) (A : Option Addr) (n k : Nat) (w : World) : Calls Try.prog 16 #[.agg (mC r c (.slice A n k))] w fun e w' => e = .returned (.bool (Matp.may r c n)) ∧ Below w.heap.size w w' := by
  have hb : ∀ o, Below w.heap.size w (w.alloc o) := fun o => (Below.refl _ _).alloc (Nat.le_refl _) o
  replace hb := Lib.hid hb
  unfold mC
  by_cases h : (0 ≤ r ∧ r ≤ 255) ∧ (0 ≤ c ∧ c ≤ 255)
  · obtain ⟨h1, h2⟩ := h
    obtain ⟨r, rfl⟩ : ∃ m : Nat, r = (m : Int) := ⟨r.toNat, by omega⟩
    obtain ⟨c, rfl⟩ : ∃ m : Nat, c = (m : Int) := ⟨c.toNat, by omega⟩
    have hrc : r * c ≤ 65025 := rc_le (by omega) (by omega)
    have hmul : (r : Int) * (c : Int) = ((r * c : Nat) : Int) := (Int.natCast_mul r c).symm
    have hv : Hid (Matp.may r c n = ((n : Int) == ((r * c : Nat) : Int))) := by
      unfold Matp.may Hid
      rw [Bool.eq_iff_iff, decide_eq_true_eq, beq_iff_eq, hmul]
      exact ⟨fun h => h.2.2, fun h => ⟨h1, h2, h⟩⟩
    rw [hv.out]
    have g1 : (r : Int) ≤ 255 := h1.2
    have g2 : (c : Int) ≤ 255 := h2.2
    clear hv h1 h2
    generalize r * c = rc at *
    go_enter Try.func16, Try.ntmps16
    go_wp2_with fail
    go_ret
    exact ⟨rfl, hb.out _⟩
  · have hv : Hid (Matp.may r c n = false) := by
      unfold Matp.may; rw [Hid, decide_eq_false_iff_not]; exact fun h2 => h ⟨h2.1, h2.2.1⟩
    rw [hv.out]
    have ho : r < 0 ∨ (0 ≤ r ∧ 255 < r) ∨ (0 ≤ r ∧ r ≤ 255 ∧ c < 0) ∨ (0 ≤ r ∧ r ≤ 255 ∧ 0 ≤ c ∧ 255 < c) := by omega
    clear hv h
    rcases ho with g1 | ⟨g1, g2⟩ | ⟨g1, g2, g3⟩ | ⟨g1, g2, g3, g4⟩
    all_goals
      go_enter Try.func16, Try.ntmps16
      go_wp2_with fail
      go_ret
      exact ⟨rfl, hb.out _⟩

set_option maxRecDepth 100000 in
theorem sameM_any (r c : Int) (A A' : Option Addr) (n k n' k' : Nat) (xs : List UInt8) (w : World) (h1 : Reads w w.heap.size 1 A n (xs.map B8)) (h2 : Reads w w.heap.size 1 A' n' (xs.map B8)) :
    Calls Try.prog 19 #[.agg (mC r c (.slice A n k)), .agg (mC r c (.slice A' n' k'))] w fun e w' => e = .returned (.bool true) ∧ Below w.heap.size w w' := by
  have hB : Below w.heap.size w ((w.alloc (.cells #[.int .i64 r, .int .i64 c, .slice A n k] 24)).alloc (.cells #[.int .i64 r, .int .i64 c, .slice A' n' k'] 24)) := ((Below.refl _ _).alloc (Nat.le_refl _) _).alloc (by simp) _
  have e1 := run_str (P := Try.prog) (w := (w.alloc (.cells #[.int .i64 r, .int .i64 c, .slice A n k] 24)).alloc (.cells #[.int .i64 r, .int .i64 c, .slice A' n' k'] 24)) (c := k) 22 9 5 Try.underlying22 Try.underlying5 Try.underlying9 (h1.below hB)
  have e2 := run_str (P := Try.prog) (w := (w.alloc (.cells #[.int .i64 r, .int .i64 c, .slice A n k] 24)).alloc (.cells #[.int .i64 r, .int .i64 c, .slice A' n' k'] 24)) (c := k') 22 9 5 Try.underlying22 Try.underlying5 Try.underlying9 (h2.below hB)
  replace hB := Lib.hid hB
  clear h1 h2
  unfold mC
  go_enter Try.func19, Try.ntmps19
  go_wp2_with fail
  go_ret
  exact ⟨ret_bool (by simp), hB.out⟩

theorem cau21 : cellsTo 2 (cauC 2) (1 * 2) = [142, 244] := by decide +kernel
set_option maxRecDepth 100000 in
theorem alive_any (w : World) : Calls Try.prog 14 #[] w fun e w' => e = .returned (.bool true) ∧ Below w.heap.size w w' := by
  have C := fun W => cauchy_in 2 1 W (by omega)
  rw [cau21] at C
  replace C := Lib.hid C
  have hz := (zero_of_info info_m).1
  go_enter Try.func14, Try.ntmps14
  go_wp2_with fail
  refine (C.out _).mono ?_; rintro e w1 ⟨A, k, rfl, ho, hB⟩
  obtain ⟨g, rfl, hgb⟩ : ∃ g, A = some ⟨g, 0, none⟩ ∧ w.heap.size ≤ g := by
    rcases ho.2 with ⟨_, h0⟩ | ⟨g, cap, cur, hv, hb, _⟩
    · cases h0
    · simp only [Value.slice.injEq] at hv
      exact ⟨g, hv.1, hb⟩
  have hlt : g < w1.heap.size := by
    obtain ⟨cs, fr, hc⟩ := own_row ho g rfl
    exact lt_of_heap hc
  have x0 := ho.cellAt 0 (by decide)
  have x1 := ho.cellAt 1 (by decide)
  simp [B8] at x0 x1
  have hs : ([142, 244] : List UInt8).length = 2 := rfl
  simp only [hs]
  clear hs ho
  unfold mC
  replace hB := Lib.hid hB
  go_wp2_with fail
  go_ret
  exact ⟨rfl, below_alloc hB.out _⟩
end Go.Proofs.Ytbokbndphpdgoaa
