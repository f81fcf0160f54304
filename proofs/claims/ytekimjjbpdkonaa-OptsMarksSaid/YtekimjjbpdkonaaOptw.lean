/-
  The walks of the functions on options: a number between two, the numbers of a stripe, whether options may be: the program's and the document's answer.
-/
import Derived.WalkKit
import Derived.ProofKit
import Derived.Below
import Derived.BigQuiet
import Derived.Deep.QuietTactic
import Derived.Lib.Hide
import Derived.Test.YtekimjjbpdkonaaAr
import Derived.Test.YtekimjjbpdkonaaChecked
namespace Go.Proofs.Ytekimjjbpdkonaa
open Go.RowKit

namespace Optp
def wi (x lo hi : Int) : Bool := decide (lo ≤ x ∧ x ≤ hi)
def stp (d q c : Int) : Bool := wi d 1 255 && (wi q 0 (255 - d) && wi c 1 4096)
/-- the document's errors of options: 0 none, 4 of no version, 9 not allowed -/
def chk (v b k d q c : Int) : Int :=
  if v < 1 ∨ 3 < v then 4 else if wi b 16 32768 = false then 9
  else if v = 1 then (if k = 0 ∧ d = 0 ∧ q = 0 ∧ c = 0 then 0 else 9)
  else if wi k 1 64 = false then 9
  else if v = 2 then (if d = 0 ∧ q = 0 ∧ c = 0 then 0 else 9)
  else (if stp d q c = true then 0 else 9)
end Optp

set_option maxRecDepth 100000 in
theorem within_any (x lo hi : Int) (w : World) : Calls Try.prog 18 #[.int .i64 x, .int .i64 lo, .int .i64 hi] w fun e w' => e = .returned (.bool (Optp.wi x lo hi)) ∧ w' = w := by
  unfold Optp.wi
  by_cases h1 : lo ≤ x
  · by_cases h2 : x ≤ hi
    · go_enter Try.func18, Try.ntmps18
      go_wp2_with fail
      go_ret
      exact ⟨ret_bool (by simp; omega), rfl⟩
    · go_enter Try.func18, Try.ntmps18
      go_wp2_with fail
      go_ret
      exact ⟨ret_bool (by simp; omega), rfl⟩
  · go_enter Try.func18, Try.ntmps18
    go_wp2_with fail
    go_ret
    exact ⟨ret_bool (by simp; omega), rfl⟩

set_option maxRecDepth 100000 in
theorem stripes_any (b k d q c : Int) (p : Bool) (w : World) (hd : -9223372036854775808 ≤ d ∧ d ≤ 9223372036854775807) :
    Calls Try.prog 19 #[.agg #[.int .i64 b, .bool p, .int .i64 k, .int .i64 d, .int .i64 q, .int .i64 c]] w fun e w' => e = .returned (.bool (Optp.stp d q c)) ∧ Below w.heap.size w w' := by
  unfold Optp.stp
  have H1 := fun w => within_any d 1 255 w
  have H2 := fun w => within_any q 0 (255 - d) w
  have H3 := fun w => within_any c 1 4096 w
  have hd' : Optp.wi d 1 255 = true → 1 ≤ d ∧ d ≤ 255 := by unfold Optp.wi; simp
  obtain ⟨hd0, hd1⟩ := hd
  cases h1 : Optp.wi d 1 255
  · rw [h1] at H1
    replace H1 := Lib.hid H1
    go_enter Try.func19, Try.ntmps19
    go_wp2_with fail; refine (H1.out _).mono ?_; rintro e w' ⟨rfl, rfl⟩
    go_wp2_with fail
    go_ret
    exact ⟨rfl, (Below.refl _ _).alloc (Nat.le_refl _) _⟩
  · obtain ⟨hd2, hd3⟩ := hd' h1
    clear hd'
    cases h2 : Optp.wi q 0 (255 - d)
    · rw [h1] at H1; rw [h2] at H2
      replace H1 := Lib.hid H1; replace H2 := Lib.hid H2
      go_enter Try.func19, Try.ntmps19
      go_wp2_with fail; refine (H1.out _).mono ?_; rintro e w' ⟨rfl, rfl⟩
      go_wp2_with fail; refine (H2.out _).mono ?_; rintro e w' ⟨rfl, rfl⟩
      go_wp2_with fail
      go_ret
      exact ⟨rfl, (Below.refl _ _).alloc (Nat.le_refl _) _⟩
    · rw [h1] at H1; rw [h2] at H2
      replace H1 := Lib.hid H1; replace H2 := Lib.hid H2; replace H3 := Lib.hid H3
      go_enter Try.func19, Try.ntmps19
      go_wp2_with fail; refine (H1.out _).mono ?_; rintro e w' ⟨rfl, rfl⟩
      go_wp2_with fail; refine (H2.out _).mono ?_; rintro e w' ⟨rfl, rfl⟩
      go_wp2_with fail; refine (H3.out _).mono ?_; rintro e w' ⟨rfl, rfl⟩
      go_wp2_with fail
      go_ret
      exact ⟨rfl, (Below.refl _ _).alloc (Nat.le_refl _) _⟩

theorem wi_true {x lo hi : Int} (h : lo ≤ x) (h2 : x ≤ hi) : Optp.wi x lo hi = true := by unfold Optp.wi; simp; omega
theorem wi_low {x lo hi : Int} (h : x < lo) : Optp.wi x lo hi = false := by unfold Optp.wi; simp; omega
theorem wi_high {x lo hi : Int} (h : hi < x) : Optp.wi x lo hi = false := by unfold Optp.wi; simp; omega
theorem two (x lo hi : Int) : x < lo ∨ hi < x ∨ (lo ≤ x ∧ x ≤ hi) := by omega
theorem part1 (b k d q c : Int) : b < 16 ∨ 32768 < b ∨ (16 ≤ b ∧ b ≤ 32768 ∧ k ≠ 0) ∨ (16 ≤ b ∧ b ≤ 32768 ∧ k = 0 ∧ d ≠ 0) ∨ (16 ≤ b ∧ b ≤ 32768 ∧ k = 0 ∧ d = 0 ∧ q ≠ 0) ∨ (16 ≤ b ∧ b ≤ 32768 ∧ k = 0 ∧ d = 0 ∧ q = 0 ∧ c ≠ 0) ∨ (16 ≤ b ∧ b ≤ 32768 ∧ k = 0 ∧ d = 0 ∧ q = 0 ∧ c = 0) := by
  rcases two b 16 32768 with h | h | ⟨h1, h2⟩
  · exact .inl h
  · exact .inr (.inl h)
  by_cases hk : k = 0
  · by_cases hd : d = 0
    · by_cases hq : q = 0
      · by_cases hc : c = 0
        · exact .inr (.inr (.inr (.inr (.inr (.inr ⟨h1, h2, hk, hd, hq, hc⟩)))))
        · exact .inr (.inr (.inr (.inr (.inr (.inl ⟨h1, h2, hk, hd, hq, hc⟩)))))
      · exact .inr (.inr (.inr (.inr (.inl ⟨h1, h2, hk, hd, hq⟩))))
    · exact .inr (.inr (.inr (.inl ⟨h1, h2, hk, hd⟩)))
  · exact .inr (.inr (.inl ⟨h1, h2, hk⟩))
theorem part2 (b k d q c : Int) : b < 16 ∨ 32768 < b ∨ (16 ≤ b ∧ b ≤ 32768 ∧ k < 1) ∨ (16 ≤ b ∧ b ≤ 32768 ∧ 64 < k) ∨ (16 ≤ b ∧ b ≤ 32768 ∧ 1 ≤ k ∧ k ≤ 64 ∧ d ≠ 0) ∨ (16 ≤ b ∧ b ≤ 32768 ∧ 1 ≤ k ∧ k ≤ 64 ∧ d = 0 ∧ q ≠ 0) ∨ (16 ≤ b ∧ b ≤ 32768 ∧ 1 ≤ k ∧ k ≤ 64 ∧ d = 0 ∧ q = 0 ∧ c ≠ 0) ∨ (16 ≤ b ∧ b ≤ 32768 ∧ 1 ≤ k ∧ k ≤ 64 ∧ d = 0 ∧ q = 0 ∧ c = 0) := by
  rcases two b 16 32768 with h | h | ⟨h1, h2⟩
  · exact .inl h
  · exact .inr (.inl h)
  rcases two k 1 64 with h | h | ⟨h3, h4⟩
  · exact .inr (.inr (.inl ⟨h1, h2, h⟩))
  · exact .inr (.inr (.inr (.inl ⟨h1, h2, h⟩)))
  by_cases hd : d = 0
  · by_cases hq : q = 0
    · by_cases hc : c = 0
      · exact .inr (.inr (.inr (.inr (.inr (.inr (.inr ⟨h1, h2, h3, h4, hd, hq, hc⟩))))))
      · exact .inr (.inr (.inr (.inr (.inr (.inr (.inl ⟨h1, h2, h3, h4, hd, hq, hc⟩))))))
    · exact .inr (.inr (.inr (.inr (.inr (.inl ⟨h1, h2, h3, h4, hd, hq⟩)))))
  · exact .inr (.inr (.inr (.inr (.inl ⟨h1, h2, h3, h4, hd⟩))))
theorem part3 (b k d q c : Int) : b < 16 ∨ 32768 < b ∨ (16 ≤ b ∧ b ≤ 32768 ∧ k < 1) ∨ (16 ≤ b ∧ b ≤ 32768 ∧ 64 < k) ∨ (16 ≤ b ∧ b ≤ 32768 ∧ 1 ≤ k ∧ k ≤ 64 ∧ d < 1) ∨ (16 ≤ b ∧ b ≤ 32768 ∧ 1 ≤ k ∧ k ≤ 64 ∧ 255 < d) ∨ (16 ≤ b ∧ b ≤ 32768 ∧ 1 ≤ k ∧ k ≤ 64 ∧ 1 ≤ d ∧ d ≤ 255 ∧ q < 0) ∨ (16 ≤ b ∧ b ≤ 32768 ∧ 1 ≤ k ∧ k ≤ 64 ∧ 1 ≤ d ∧ d ≤ 255 ∧ 255 - d < q) ∨
      (16 ≤ b ∧ b ≤ 32768 ∧ 1 ≤ k ∧ k ≤ 64 ∧ 1 ≤ d ∧ d ≤ 255 ∧ 0 ≤ q ∧ q ≤ 255 - d ∧ c < 1) ∨ (16 ≤ b ∧ b ≤ 32768 ∧ 1 ≤ k ∧ k ≤ 64 ∧ 1 ≤ d ∧ d ≤ 255 ∧ 0 ≤ q ∧ q ≤ 255 - d ∧ 4096 < c) ∨ (16 ≤ b ∧ b ≤ 32768 ∧ 1 ≤ k ∧ k ≤ 64 ∧ 1 ≤ d ∧ d ≤ 255 ∧ 0 ≤ q ∧ q ≤ 255 - d ∧ 1 ≤ c ∧ c ≤ 4096) := by
  rcases two b 16 32768 with h | h | ⟨h1, h2⟩
  · exact .inl h
  · exact .inr (.inl h)
  rcases two k 1 64 with h | h | ⟨h3, h4⟩
  · exact .inr (.inr (.inl ⟨h1, h2, h⟩))
  · exact .inr (.inr (.inr (.inl ⟨h1, h2, h⟩)))
  rcases two d 1 255 with h | h | ⟨h5, h6⟩
  · exact .inr (.inr (.inr (.inr (.inl ⟨h1, h2, h3, h4, h⟩))))
  · exact .inr (.inr (.inr (.inr (.inr (.inl ⟨h1, h2, h3, h4, h⟩)))))
  rcases two q 0 (255 - d) with h | h | ⟨h7, h8⟩
  · exact .inr (.inr (.inr (.inr (.inr (.inr (.inl ⟨h1, h2, h3, h4, h5, h6, h⟩))))))
  · exact .inr (.inr (.inr (.inr (.inr (.inr (.inr (.inl ⟨h1, h2, h3, h4, h5, h6, h⟩)))))))
  rcases two c 1 4096 with h | h | ⟨h9, h10⟩
  · exact .inr (.inr (.inr (.inr (.inr (.inr (.inr (.inr (.inl ⟨h1, h2, h3, h4, h5, h6, h7, h8, h⟩))))))))
  · exact .inr (.inr (.inr (.inr (.inr (.inr (.inr (.inr (.inr (.inl ⟨h1, h2, h3, h4, h5, h6, h7, h8, h⟩)))))))))
  · exact .inr (.inr (.inr (.inr (.inr (.inr (.inr (.inr (.inr (.inr ⟨h1, h2, h3, h4, h5, h6, h7, h8, h9, h10⟩)))))))))
set_option maxHeartbeats 4000000 in
set_option maxRecDepth 100000 in
theorem refCheck_any (v b k d q c : Int) (p : Bool) (w : World) (hd : -9223372036854775808 ≤ d ∧ d ≤ 9223372036854775807) :
    Calls Try.prog 10 #[.int .i64 v, .agg #[.int .i64 b, .bool p, .int .i64 k, .int .i64 d, .int .i64 q, .int .i64 c]] w fun e w' => e = .returned (.int .i64 (Optp.chk v b k d q c)) ∧ Below w.heap.size w w' := by
  obtain ⟨hd0, hd1⟩ := hd
  have hv : v < 1 ∨ 3 < v ∨ v = 1 ∨ v = 2 ∨ v = 3 := by omega
  have h1 : b < 16 ∨ 32768 < b ∨ (16 ≤ b ∧ b ≤ 32768 ∧ k ≠ 0) ∨ (16 ≤ b ∧ b ≤ 32768 ∧ k = 0 ∧ d ≠ 0) ∨ (16 ≤ b ∧ b ≤ 32768 ∧ k = 0 ∧ d = 0 ∧ q ≠ 0) ∨ (16 ≤ b ∧ b ≤ 32768 ∧ k = 0 ∧ d = 0 ∧ q = 0 ∧ c ≠ 0) ∨ (16 ≤ b ∧ b ≤ 32768 ∧ k = 0 ∧ d = 0 ∧ q = 0 ∧ c = 0) := part1 b k d q c
  have h2 : b < 16 ∨ 32768 < b ∨ (16 ≤ b ∧ b ≤ 32768 ∧ k < 1) ∨ (16 ≤ b ∧ b ≤ 32768 ∧ 64 < k) ∨ (16 ≤ b ∧ b ≤ 32768 ∧ 1 ≤ k ∧ k ≤ 64 ∧ d ≠ 0) ∨ (16 ≤ b ∧ b ≤ 32768 ∧ 1 ≤ k ∧ k ≤ 64 ∧ d = 0 ∧ q ≠ 0) ∨ (16 ≤ b ∧ b ≤ 32768 ∧ 1 ≤ k ∧ k ≤ 64 ∧ d = 0 ∧ q = 0 ∧ c ≠ 0) ∨ (16 ≤ b ∧ b ≤ 32768 ∧ 1 ≤ k ∧ k ≤ 64 ∧ d = 0 ∧ q = 0 ∧ c = 0) := part2 b k d q c
  have h3 : b < 16 ∨ 32768 < b ∨ (16 ≤ b ∧ b ≤ 32768 ∧ k < 1) ∨ (16 ≤ b ∧ b ≤ 32768 ∧ 64 < k) ∨ (16 ≤ b ∧ b ≤ 32768 ∧ 1 ≤ k ∧ k ≤ 64 ∧ d < 1) ∨ (16 ≤ b ∧ b ≤ 32768 ∧ 1 ≤ k ∧ k ≤ 64 ∧ 255 < d) ∨ (16 ≤ b ∧ b ≤ 32768 ∧ 1 ≤ k ∧ k ≤ 64 ∧ 1 ≤ d ∧ d ≤ 255 ∧ q < 0) ∨ (16 ≤ b ∧ b ≤ 32768 ∧ 1 ≤ k ∧ k ≤ 64 ∧ 1 ≤ d ∧ d ≤ 255 ∧ 255 - d < q) ∨
      (16 ≤ b ∧ b ≤ 32768 ∧ 1 ≤ k ∧ k ≤ 64 ∧ 1 ≤ d ∧ d ≤ 255 ∧ 0 ≤ q ∧ q ≤ 255 - d ∧ c < 1) ∨ (16 ≤ b ∧ b ≤ 32768 ∧ 1 ≤ k ∧ k ≤ 64 ∧ 1 ≤ d ∧ d ≤ 255 ∧ 0 ≤ q ∧ q ≤ 255 - d ∧ 4096 < c) ∨ (16 ≤ b ∧ b ≤ 32768 ∧ 1 ≤ k ∧ k ≤ 64 ∧ 1 ≤ d ∧ d ≤ 255 ∧ 0 ≤ q ∧ q ≤ 255 - d ∧ 1 ≤ c ∧ c ≤ 4096) := part3 b k d q c
  rcases hv with hv | hv | rfl | rfl | rfl
  · clear h1 h2 h3
    go_enter Try.func10, Try.ntmps10
    go_wp2_with fail
    go_ret
    refine ⟨ret_int ?_, (Below.refl _ _).alloc (Nat.le_refl _) _⟩
    unfold Optp.chk; rw [if_pos (by omega)]
  · clear h1 h2 h3
    go_enter Try.func10, Try.ntmps10
    go_wp2_with fail
    go_ret
    refine ⟨ret_int ?_, (Below.refl _ _).alloc (Nat.le_refl _) _⟩
    unfold Optp.chk; rw [if_pos (by omega)]
  · clear h2 h3
    rcases h1 with h | h | ⟨h1, h2, h⟩ | ⟨h1, h2, rfl, h⟩ | ⟨h1, h2, rfl, rfl, h⟩ | ⟨h1, h2, rfl, rfl, rfl, h⟩ | ⟨h1, h2, rfl, rfl, rfl, rfl⟩
    all_goals
      try have hx := bne_iff_ne.2 h
      go_enter Try.func10, Try.ntmps10
      go_wp2_with fail
      go_ret
      refine ⟨ret_int ?_, (Below.refl _ _).alloc (Nat.le_refl _) _⟩
      try clear hx
      unfold Optp.chk Optp.wi
      simp only [decide_eq_false_iff_not]
      repeat' split
      all_goals first | rfl | (exfalso; omega) | (exfalso; simp_all; done) | (exfalso; simp_all; omega)
  · clear h1 h3
    rcases h2 with h | h | ⟨h1, h2, h⟩ | ⟨h1, h2, h⟩ | ⟨h1, h2, h3, h4, h⟩ | ⟨h1, h2, h3, h4, rfl, h⟩ | ⟨h1, h2, h3, h4, rfl, rfl, h⟩ | ⟨h1, h2, h3, h4, rfl, rfl, rfl⟩
    all_goals
      try have hx := bne_iff_ne.2 h
      go_enter Try.func10, Try.ntmps10
      go_wp2_with fail
      go_ret
      refine ⟨ret_int ?_, (Below.refl _ _).alloc (Nat.le_refl _) _⟩
      try clear hx
      unfold Optp.chk Optp.wi
      simp only [decide_eq_false_iff_not]
      repeat' split
      all_goals first | rfl | (exfalso; omega) | (exfalso; simp_all; done) | (exfalso; simp_all; omega)
  · clear h1 h2
    rcases h3 with h | h | ⟨h1, h2, h⟩ | ⟨h1, h2, h⟩ | ⟨h1, h2, h3, h4, h⟩ | ⟨h1, h2, h3, h4, h⟩ | ⟨h1, h2, h3, h4, h5, h6, h⟩ | ⟨h1, h2, h3, h4, h5, h6, h⟩ | ⟨h1, h2, h3, h4, h5, h6, h7, h8, h⟩ | ⟨h1, h2, h3, h4, h5, h6, h7, h8, h⟩ | ⟨h1, h2, h3, h4, h5, h6, h7, h8, h9, h10⟩
    all_goals
      go_enter Try.func10, Try.ntmps10
      go_wp2_with fail
      go_ret
      refine ⟨ret_int ?_, (Below.refl _ _).alloc (Nat.le_refl _) _⟩
      unfold Optp.chk Optp.stp Optp.wi
      simp only [decide_eq_false_iff_not, Bool.and_eq_true, decide_eq_true_eq]
      repeat' split
      all_goals first | rfl | (exfalso; omega) | (exfalso; simp_all; done) | (exfalso; simp_all; omega)
end Go.Proofs.Ytekimjjbpdkonaa
