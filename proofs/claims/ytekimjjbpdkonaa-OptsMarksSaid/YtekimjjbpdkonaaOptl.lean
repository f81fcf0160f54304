/-
  The walks of the laws OptsChecks and OptsOne: each returns true, and nothing that was there has turned.
-/
import Derived.Test.YtekimjjbpdkonaaOptw3
import Derived.Deep.RegionHeld3
namespace Go.Proofs.Ytekimjjbpdkonaa
open Go.RowKit
set_option linter.unusedSimpArgs false

theorem below_after {w W W' : World} (h : Below w.heap.size w W) (h' : Below W.heap.size W W') : Below w.heap.size w W' := h.trans (h'.mono h.size)

set_option maxRecDepth 100000 in
theorem alive_any (w : World) : Calls Try.prog 8 #[] w fun e w' => e = .returned (.bool true) ∧ Below w.heap.size w w' := by
  have H := fun w => grow_1 64 0 0 0 0 false w (by omega) (by decide)
  replace H := Lib.hid H
  go_enter Try.func8, Try.ntmps8
  go_wp2_with fail
  refine (H.out _).mono ?_; rintro e w1 ⟨rfl, hb1⟩
  go_wp2_with fail
  go_ret
  exact ⟨rfl, hb1.alloc hb1.size _⟩

theorem below_boxed {w w' : World} {o : Obj} (h : Below (w.alloc o).heap.size (w.alloc o) w') : Below w.heap.size w w' := ((Below.refl _ _).alloc (Nat.le_refl _) _).trans (h.mono (by simp))
theorem boxed_of {w w' : World} {b k d q c : Int} {p : Bool} (h : Below (w.alloc (.cells #[.int .i64 b, .bool p, .int .i64 k, .int .i64 d, .int .i64 q, .int .i64 c] 23)).heap.size (w.alloc (.cells #[.int .i64 b, .bool p, .int .i64 k, .int .i64 d, .int .i64 q, .int .i64 c] 23)) w') :
    (Below (w.alloc (.cells #[.int .i64 b, .bool p, .int .i64 k, .int .i64 d, .int .i64 q, .int .i64 c] 23)).heap.size (w.alloc (.cells #[.int .i64 b, .bool p, .int .i64 k, .int .i64 d, .int .i64 q, .int .i64 c] 23)) w' ∧ w'.cell? ⟨w.heap.size, 0, none⟩ = some (.int .i64 b) ∧ w'.cell? ⟨w.heap.size, 1, none⟩ = some (.bool p) ∧ w'.cell? ⟨w.heap.size, 2, none⟩ = some (.int .i64 k) ∧ w'.cell? ⟨w.heap.size, 3, none⟩ = some (.int .i64 d) ∧ w'.cell? ⟨w.heap.size, 4, none⟩ = some (.int .i64 q) ∧ w'.cell? ⟨w.heap.size, 5, none⟩ = some (.int .i64 c)) := by
  obtain ⟨hc, _⟩ := below_cells h
  refine ⟨h, ?_, ?_, ?_, ?_, ?_, ?_⟩ <;> rw [hc _ _ (by simp)] <;> simp

set_option maxRecDepth 100000 in
set_option maxHeartbeats 1000000 in
theorem optsChecks_walk (v b : Int) (p : Bool) (k d q c : Int) (w : World) (hd : -9223372036854775808 ≤ d ∧ d ≤ 9223372036854775807) :
    Calls Try.prog 3 #[.int .i64 v, .agg #[.int .i64 b, .bool p, .int .i64 k, .int .i64 d, .int .i64 q, .int .i64 c]] w fun e w' => e = .returned (.bool true) ∧ Below w.heap.size w w' := by
  have C1 := fun W => check_any v b k d q c p W hd
  have C2 := fun W => refCheck_any v b k d q c p W hd
  generalize Optp.chk v b k d q c = r at *
  replace C1 := Lib.hid C1; replace C2 := Lib.hid C2
  clear hd
  go_enter Try.func3, Try.ntmps3
  go_wp2_with fail
  obtain ⟨-, z0, z1, z2, z3, z4, z5⟩ := boxed_of (Below.refl (w.alloc (.cells #[.int .i64 b, .bool p, .int .i64 k, .int .i64 d, .int .i64 q, .int .i64 c] 23)).heap.size (w.alloc (.cells #[.int .i64 b, .bool p, .int .i64 k, .int .i64 d, .int .i64 q, .int .i64 c] 23)))
  have hS0 := Below.refl (w.alloc (.cells #[.int .i64 b, .bool p, .int .i64 k, .int .i64 d, .int .i64 q, .int .i64 c] 23)).heap.size (w.alloc (.cells #[.int .i64 b, .bool p, .int .i64 k, .int .i64 d, .int .i64 q, .int .i64 c] 23))
  go_region_held3 (fun w' => Below (w.alloc (.cells #[.int .i64 b, .bool p, .int .i64 k, .int .i64 d, .int .i64 q, .int .i64 c] 23)).heap.size (w.alloc (.cells #[.int .i64 b, .bool p, .int .i64 k, .int .i64 d, .int .i64 q, .int .i64 c] 23)) w' ∧ w'.cell? ⟨w.heap.size, 0, none⟩ = some (.int .i64 b) ∧ w'.cell? ⟨w.heap.size, 1, none⟩ = some (.bool p) ∧ w'.cell? ⟨w.heap.size, 2, none⟩ = some (.int .i64 k) ∧ w'.cell? ⟨w.heap.size, 3, none⟩ = some (.int .i64 d) ∧ w'.cell? ⟨w.heap.size, 4, none⟩ = some (.int .i64 q) ∧ w'.cell? ⟨w.heap.size, 5, none⟩ = some (.int .i64 c))
    (first | assumption | (refine boxed_of ?_; repeat (first | assumption | exact And.left (by assumption) | (with_reducible refine Below.drew ?_))))
    (first
      | (go_at_call 8; ((with_reducible refine (alive_any _).mono ?_); rintro e w1 ⟨rfl, hB1⟩; have hS1 := below_after (by repeat (first | assumption | exact And.left (by assumption) | (with_reducible refine Below.drew ?_))) hB1; obtain ⟨-, a10, a11, a12, a13, a14, a15⟩ := boxed_of hS1))
      | (go_at_call 9; ((with_reducible refine (C1.out _).mono ?_); rintro e w2 ⟨rfl, hB2⟩; have hS2 := below_after (by repeat (first | assumption | exact And.left (by assumption) | (with_reducible refine Below.drew ?_))) hB2; obtain ⟨-, a20, a21, a22, a23, a24, a25⟩ := boxed_of hS2))
      | (go_at_call 10; ((with_reducible refine (C2.out _).mono ?_); rintro e w3 ⟨rfl, hB3⟩; have hS3 := below_after (by repeat (first | assumption | exact And.left (by assumption) | (with_reducible refine Below.drew ?_))) hB3; obtain ⟨-, a30, a31, a32, a33, a34, a35⟩ := boxed_of hS3)))
  all_goals
    go_wp2_with fail
    go_ret
    exact ⟨rfl, below_boxed (by repeat (first | assumption | exact And.left (by assumption) | (with_reducible refine Below.drew ?_)))⟩

theorem chk_two (v u b k d q c : Int) (h : Optp.chk v b k d q c = 0) (h2 : Optp.chk u b k d q c = 0) : v = u := by
  have key : ∀ v, Optp.chk v b k d q c = 0 → v = (if k = 0 then 1 else if d = 0 then 2 else 3) := by
    intro v h
    unfold Optp.chk at h
    have hd0 : Optp.wi (0 : Int) 1 255 = false := by decide
    have hk0 : Optp.wi (0 : Int) 1 64 = false := by decide
    repeat' split at h
    all_goals first
      | (exfalso; omega)
      | (rename_i hh; obtain ⟨hk, -⟩ := hh; rw [if_pos hk]; assumption)
      | (rename_i x1 x2 x3 x4 x5 hh
         rw [if_neg (by intro hk; subst hk; exact x4 hk0)]
         first
           | (rw [if_pos hh.1]; assumption)
           | (rw [if_neg (by intro hk; subst hk; unfold Optp.stp at hh; rw [hd0] at hh; cases hh)]; omega))
  rw [key v h, key u h2]

set_option maxRecDepth 100000 in
set_option maxHeartbeats 1000000 in
theorem optsOne_walk (v u b : Int) (p : Bool) (k d q c : Int) (w : World) (hd : -9223372036854775808 ≤ d ∧ d ≤ 9223372036854775807) :
    Calls Try.prog 5 #[.int .i64 v, .int .i64 u, .agg #[.int .i64 b, .bool p, .int .i64 k, .int .i64 d, .int .i64 q, .int .i64 c]] w fun e w' => e = .returned (.bool true) ∧ Below w.heap.size w w' := by
  have C1 := fun W => check_any v b k d q c p W hd
  have C2 := fun W => check_any u b k d q c p W hd
  have hvu : v = u ∨ ((v == u) = false ∧ ((Optp.chk v b k d q c != 0) = true ∨ ((Optp.chk v b k d q c != 0) = false ∧ (Optp.chk u b k d q c != 0) = true))) := by
    by_cases h : v = u
    · exact .inl h
    refine .inr ⟨beq_eq_false_iff_ne.2 h, ?_⟩
    by_cases h1 : Optp.chk v b k d q c = 0
    · refine .inr ⟨by simp [h1], ?_⟩
      rw [bne_iff_ne]; intro h2; exact h (chk_two v u b k d q c h1 h2)
    · exact .inl (bne_iff_ne.2 h1)
  generalize Optp.chk v b k d q c = r at *
  generalize Optp.chk u b k d q c = r2 at *
  replace C1 := Lib.hid C1; replace C2 := Lib.hid C2
  clear hd
  rcases hvu with rfl | ⟨h, h1 | ⟨h1, h2⟩⟩
  · go_enter Try.func5, Try.ntmps5
    go_wp2_with fail
    refine (alive_any _).mono ?_; rintro e w1 ⟨rfl, hB1⟩
    obtain ⟨-, z0, z1, z2, z3, z4, z5⟩ := boxed_of hB1
    go_wp2_with fail
    go_ret
    exact ⟨rfl, below_boxed hB1⟩
  · go_enter Try.func5, Try.ntmps5
    go_wp2_with fail
    refine (alive_any _).mono ?_; rintro e w1 ⟨rfl, hB1⟩
    obtain ⟨-, z0, z1, z2, z3, z4, z5⟩ := boxed_of hB1
    go_wp2_with fail
    refine (C1.out _).mono ?_; rintro e w2 ⟨rfl, hB2⟩
    have hS2 := below_after hB1 hB2
    go_wp2_with fail
    go_ret
    exact ⟨rfl, below_boxed hS2⟩
  · go_enter Try.func5, Try.ntmps5
    go_wp2_with fail
    refine (alive_any _).mono ?_; rintro e w1 ⟨rfl, hB1⟩
    obtain ⟨-, z0, z1, z2, z3, z4, z5⟩ := boxed_of hB1
    go_wp2_with fail
    refine (C1.out _).mono ?_; rintro e w2 ⟨rfl, hB2⟩
    have hS2 := below_after hB1 hB2
    obtain ⟨-, a0, a1, a2, a3, a4, a5⟩ := boxed_of hS2
    go_wp2_with fail
    refine (C2.out _).mono ?_; rintro e w3 ⟨rfl, hB3⟩
    have hS3 := below_after hS2 hB3
    go_wp2_with fail
    go_ret
    exact ⟨rfl, below_boxed hS3⟩
end Go.Proofs.Ytekimjjbpdkonaa
