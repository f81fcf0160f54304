/-
  What more options the next version has, as the program and as the document says it.
-/
import Derived.Test.YtekimjjbpdkonaaOptw2
namespace Go.Proofs.Ytekimjjbpdkonaa
open Go.RowKit
set_option linter.unusedSimpArgs false

set_option maxRecDepth 100000 in
set_option maxHeartbeats 1000000 in
theorem grow_bad (v b k d q c : Int) (p : Bool) (w : World) (hd : -9223372036854775808 ≤ d ∧ d ≤ 9223372036854775807) (r : Int) (hr : Optp.chk v b k d q c = r) (h0 : r ≠ 0) :
    Calls Try.prog 11 #[.int .i64 v, .agg #[.int .i64 b, .bool p, .int .i64 k, .int .i64 d, .int .i64 q, .int .i64 c]] w fun e w' => e = .returned (.tuple #[.agg #[.int .i64 0, .bool false, .int .i64 0, .int .i64 0, .int .i64 0, .int .i64 0], .int .i64 r]) ∧ Below w.heap.size w w' := by
  have H := fun w => check_any v b k d q c p w hd
  rw [hr] at H
  replace H := Lib.hid H
  have hx := bne_iff_ne.2 h0
  clear hr
  go_enter Try.func11, Try.ntmps11
  go_wp2_with fail
  refine (H.out _).mono ?_; rintro e w1 ⟨rfl, hb1⟩
  obtain ⟨hc, hf⟩ := below_cells hb1
  have hz : w.heap.size + 1 < w1.heap.size := by have := hb1.size; simp at this; omega
  have hz0 : w.heap.size < w1.heap.size := by omega
  have c2 : w1.cell? ⟨w.heap.size, 2, none⟩ = some (.int .i64 k) := by rw [hc _ _ (by simp; omega)]; simp
  have c3 : w1.cell? ⟨w.heap.size, 3, none⟩ = some (.int .i64 d) := by rw [hc _ _ (by simp; omega)]; simp
  have c4 : w1.cell? ⟨w.heap.size, 4, none⟩ = some (.int .i64 q) := by rw [hc _ _ (by simp; omega)]; simp
  have c5 : w1.cell? ⟨w.heap.size, 5, none⟩ = some (.int .i64 c) := by rw [hc _ _ (by simp; omega)]; simp
  go_wp2_with fail
  exact bodyPost_ret (v := .tuple #[.agg #[.int .i64 0, .bool false, .int .i64 0, .int .i64 0, .int .i64 0, .int .i64 0], .int .i64 r]) (by simp [results, Try.results11, go_sem, hc, hz, hz0, hf, c2, c3, c4, c5]) rfl ⟨rfl, by
    repeat (with_reducible refine Below.setCell ?_ (by simp) _)
    exact (((Below.refl _ _).alloc (Nat.le_refl _) _).alloc (by simp) _).trans (hb1.mono (by simp; omega))⟩

set_option maxRecDepth 100000 in
set_option maxHeartbeats 1000000 in
theorem grow_1 (b k d q c : Int) (p : Bool) (w : World) (hd : -9223372036854775808 ≤ d ∧ d ≤ 9223372036854775807) (hr : Optp.chk 1 b k d q c = 0) :
    Calls Try.prog 11 #[.int .i64 1, .agg #[.int .i64 b, .bool p, .int .i64 k, .int .i64 d, .int .i64 q, .int .i64 c]] w fun e w' => e = .returned (.tuple #[.agg #[.int .i64 b, .bool p, .int .i64 16, .int .i64 d, .int .i64 q, .int .i64 c], .int .i64 0]) ∧ Below w.heap.size w w' := by
  have H := fun w => check_any 1 b k d q c p w hd
  rw [hr] at H
  replace H := Lib.hid H
  clear hr
  go_enter Try.func11, Try.ntmps11
  go_wp2_with fail
  refine (H.out _).mono ?_; rintro e w1 ⟨rfl, hb1⟩
  obtain ⟨hc, hf⟩ := below_cells hb1
  have hz : w.heap.size + 1 < w1.heap.size := by have := hb1.size; simp at this; omega
  have hz0 : w.heap.size < w1.heap.size := by omega
  have c2 : w1.cell? ⟨w.heap.size, 2, none⟩ = some (.int .i64 k) := by rw [hc _ _ (by simp; omega)]; simp
  have c3 : w1.cell? ⟨w.heap.size, 3, none⟩ = some (.int .i64 d) := by rw [hc _ _ (by simp; omega)]; simp
  have c4 : w1.cell? ⟨w.heap.size, 4, none⟩ = some (.int .i64 q) := by rw [hc _ _ (by simp; omega)]; simp
  have c5 : w1.cell? ⟨w.heap.size, 5, none⟩ = some (.int .i64 c) := by rw [hc _ _ (by simp; omega)]; simp
  go_wp2_with fail
  exact bodyPost_ret (v := .tuple #[.agg #[.int .i64 b, .bool p, .int .i64 16, .int .i64 d, .int .i64 q, .int .i64 c], .int .i64 0]) (by simp [results, Try.results11, go_sem, hc, hz, hz0, hf, c2, c3, c4, c5]) rfl ⟨rfl, by
    repeat (with_reducible refine Below.setCell ?_ (by simp) _)
    exact (((Below.refl _ _).alloc (Nat.le_refl _) _).alloc (by simp) _).trans (hb1.mono (by simp; omega))⟩

set_option maxRecDepth 100000 in
set_option maxHeartbeats 1000000 in
theorem grow_2 (b k d q c : Int) (p : Bool) (w : World) (hd : -9223372036854775808 ≤ d ∧ d ≤ 9223372036854775807) (hr : Optp.chk 2 b k d q c = 0) :
    Calls Try.prog 11 #[.int .i64 2, .agg #[.int .i64 b, .bool p, .int .i64 k, .int .i64 d, .int .i64 q, .int .i64 c]] w fun e w' => e = .returned (.tuple #[.agg #[.int .i64 b, .bool p, .int .i64 k, .int .i64 4, .int .i64 2, .int .i64 64], .int .i64 0]) ∧ Below w.heap.size w w' := by
  have H := fun w => check_any 2 b k d q c p w hd
  rw [hr] at H
  replace H := Lib.hid H
  clear hr
  go_enter Try.func11, Try.ntmps11
  go_wp2_with fail
  refine (H.out _).mono ?_; rintro e w1 ⟨rfl, hb1⟩
  obtain ⟨hc, hf⟩ := below_cells hb1
  have hz : w.heap.size + 1 < w1.heap.size := by have := hb1.size; simp at this; omega
  have hz0 : w.heap.size < w1.heap.size := by omega
  have c2 : w1.cell? ⟨w.heap.size, 2, none⟩ = some (.int .i64 k) := by rw [hc _ _ (by simp; omega)]; simp
  have c3 : w1.cell? ⟨w.heap.size, 3, none⟩ = some (.int .i64 d) := by rw [hc _ _ (by simp; omega)]; simp
  have c4 : w1.cell? ⟨w.heap.size, 4, none⟩ = some (.int .i64 q) := by rw [hc _ _ (by simp; omega)]; simp
  have c5 : w1.cell? ⟨w.heap.size, 5, none⟩ = some (.int .i64 c) := by rw [hc _ _ (by simp; omega)]; simp
  go_wp2_with fail
  exact bodyPost_ret (v := .tuple #[.agg #[.int .i64 b, .bool p, .int .i64 k, .int .i64 4, .int .i64 2, .int .i64 64], .int .i64 0]) (by simp [results, Try.results11, go_sem, hc, hz, hz0, hf, c2, c3, c4, c5]) rfl ⟨rfl, by
    repeat (with_reducible refine Below.setCell ?_ (by simp) _)
    exact (((Below.refl _ _).alloc (Nat.le_refl _) _).alloc (by simp) _).trans (hb1.mono (by simp; omega))⟩

set_option maxRecDepth 100000 in
set_option maxHeartbeats 1000000 in
theorem grow_3 (b k d q c : Int) (p : Bool) (w : World) (hd : -9223372036854775808 ≤ d ∧ d ≤ 9223372036854775807) (hr : Optp.chk 3 b k d q c = 0) :
    Calls Try.prog 11 #[.int .i64 3, .agg #[.int .i64 b, .bool p, .int .i64 k, .int .i64 d, .int .i64 q, .int .i64 c]] w fun e w' => e = .returned (.tuple #[.agg #[.int .i64 0, .bool false, .int .i64 0, .int .i64 0, .int .i64 0, .int .i64 0], .int .i64 4]) ∧ Below w.heap.size w w' := by
  have H := fun w => check_any 3 b k d q c p w hd
  rw [hr] at H
  replace H := Lib.hid H
  clear hr
  go_enter Try.func11, Try.ntmps11
  go_wp2_with fail
  refine (H.out _).mono ?_; rintro e w1 ⟨rfl, hb1⟩
  obtain ⟨hc, hf⟩ := below_cells hb1
  have hz : w.heap.size + 1 < w1.heap.size := by have := hb1.size; simp at this; omega
  have hz0 : w.heap.size < w1.heap.size := by omega
  have c2 : w1.cell? ⟨w.heap.size, 2, none⟩ = some (.int .i64 k) := by rw [hc _ _ (by simp; omega)]; simp
  have c3 : w1.cell? ⟨w.heap.size, 3, none⟩ = some (.int .i64 d) := by rw [hc _ _ (by simp; omega)]; simp
  have c4 : w1.cell? ⟨w.heap.size, 4, none⟩ = some (.int .i64 q) := by rw [hc _ _ (by simp; omega)]; simp
  have c5 : w1.cell? ⟨w.heap.size, 5, none⟩ = some (.int .i64 c) := by rw [hc _ _ (by simp; omega)]; simp
  go_wp2_with fail
  exact bodyPost_ret (v := .tuple #[.agg #[.int .i64 0, .bool false, .int .i64 0, .int .i64 0, .int .i64 0, .int .i64 0], .int .i64 4]) (by simp [results, Try.results11, go_sem, hc, hz, hz0, hf, c2, c3, c4, c5]) rfl ⟨rfl, by
    repeat (with_reducible refine Below.setCell ?_ (by simp) _)
    exact (((Below.refl _ _).alloc (Nat.le_refl _) _).alloc (by simp) _).trans (hb1.mono (by simp; omega))⟩

set_option maxRecDepth 100000 in
set_option maxHeartbeats 1000000 in
theorem refGrow_bad (v b k d q c : Int) (p : Bool) (w : World) (hd : -9223372036854775808 ≤ d ∧ d ≤ 9223372036854775807) (r : Int) (hr : Optp.chk v b k d q c = r) (h0 : r ≠ 0) :
    Calls Try.prog 12 #[.int .i64 v, .agg #[.int .i64 b, .bool p, .int .i64 k, .int .i64 d, .int .i64 q, .int .i64 c]] w fun e w' => e = .returned (.tuple #[.agg #[.int .i64 0, .bool false, .int .i64 0, .int .i64 0, .int .i64 0, .int .i64 0], .int .i64 r]) ∧ Below w.heap.size w w' := by
  have H := fun w => refCheck_any v b k d q c p w hd
  rw [hr] at H
  replace H := Lib.hid H
  have hx := bne_iff_ne.2 h0
  clear hr
  go_enter Try.func12, Try.ntmps12
  go_wp2_with fail
  refine (H.out _).mono ?_; rintro e w1 ⟨rfl, hb1⟩
  obtain ⟨hc, hf⟩ := below_cells hb1
  have hz : w.heap.size + 1 < w1.heap.size := by have := hb1.size; simp at this; omega
  have hz0 : w.heap.size < w1.heap.size := by omega
  have c2 : w1.cell? ⟨w.heap.size, 2, none⟩ = some (.int .i64 k) := by rw [hc _ _ (by simp; omega)]; simp
  have c3 : w1.cell? ⟨w.heap.size, 3, none⟩ = some (.int .i64 d) := by rw [hc _ _ (by simp; omega)]; simp
  have c4 : w1.cell? ⟨w.heap.size, 4, none⟩ = some (.int .i64 q) := by rw [hc _ _ (by simp; omega)]; simp
  have c5 : w1.cell? ⟨w.heap.size, 5, none⟩ = some (.int .i64 c) := by rw [hc _ _ (by simp; omega)]; simp
  go_wp2_with fail
  exact bodyPost_ret (v := .tuple #[.agg #[.int .i64 0, .bool false, .int .i64 0, .int .i64 0, .int .i64 0, .int .i64 0], .int .i64 r]) (by simp [results, Try.results12, go_sem, hc, hz, hz0, hf, c2, c3, c4, c5]) rfl ⟨rfl, by
    repeat (with_reducible refine Below.setCell ?_ (by simp) _)
    exact (((Below.refl _ _).alloc (Nat.le_refl _) _).alloc (by simp) _).trans (hb1.mono (by simp; omega))⟩

set_option maxRecDepth 100000 in
set_option maxHeartbeats 1000000 in
theorem refGrow_1 (b k d q c : Int) (p : Bool) (w : World) (hd : -9223372036854775808 ≤ d ∧ d ≤ 9223372036854775807) (hr : Optp.chk 1 b k d q c = 0) :
    Calls Try.prog 12 #[.int .i64 1, .agg #[.int .i64 b, .bool p, .int .i64 k, .int .i64 d, .int .i64 q, .int .i64 c]] w fun e w' => e = .returned (.tuple #[.agg #[.int .i64 b, .bool p, .int .i64 16, .int .i64 d, .int .i64 q, .int .i64 c], .int .i64 0]) ∧ Below w.heap.size w w' := by
  have H := fun w => refCheck_any 1 b k d q c p w hd
  rw [hr] at H
  replace H := Lib.hid H
  clear hr
  go_enter Try.func12, Try.ntmps12
  go_wp2_with fail
  refine (H.out _).mono ?_; rintro e w1 ⟨rfl, hb1⟩
  obtain ⟨hc, hf⟩ := below_cells hb1
  have hz : w.heap.size + 1 < w1.heap.size := by have := hb1.size; simp at this; omega
  have hz0 : w.heap.size < w1.heap.size := by omega
  have c2 : w1.cell? ⟨w.heap.size, 2, none⟩ = some (.int .i64 k) := by rw [hc _ _ (by simp; omega)]; simp
  have c3 : w1.cell? ⟨w.heap.size, 3, none⟩ = some (.int .i64 d) := by rw [hc _ _ (by simp; omega)]; simp
  have c4 : w1.cell? ⟨w.heap.size, 4, none⟩ = some (.int .i64 q) := by rw [hc _ _ (by simp; omega)]; simp
  have c5 : w1.cell? ⟨w.heap.size, 5, none⟩ = some (.int .i64 c) := by rw [hc _ _ (by simp; omega)]; simp
  go_wp2_with fail
  exact bodyPost_ret (v := .tuple #[.agg #[.int .i64 b, .bool p, .int .i64 16, .int .i64 d, .int .i64 q, .int .i64 c], .int .i64 0]) (by simp [results, Try.results12, go_sem, hc, hz, hz0, hf, c2, c3, c4, c5]) rfl ⟨rfl, by
    repeat (with_reducible refine Below.setCell ?_ (by simp) _)
    exact (((Below.refl _ _).alloc (Nat.le_refl _) _).alloc (by simp) _).trans (hb1.mono (by simp; omega))⟩

set_option maxRecDepth 100000 in
set_option maxHeartbeats 1000000 in
theorem refGrow_2 (b k d q c : Int) (p : Bool) (w : World) (hd : -9223372036854775808 ≤ d ∧ d ≤ 9223372036854775807) (hr : Optp.chk 2 b k d q c = 0) :
    Calls Try.prog 12 #[.int .i64 2, .agg #[.int .i64 b, .bool p, .int .i64 k, .int .i64 d, .int .i64 q, .int .i64 c]] w fun e w' => e = .returned (.tuple #[.agg #[.int .i64 b, .bool p, .int .i64 k, .int .i64 4, .int .i64 2, .int .i64 64], .int .i64 0]) ∧ Below w.heap.size w w' := by
  have H := fun w => refCheck_any 2 b k d q c p w hd
  rw [hr] at H
  replace H := Lib.hid H
  clear hr
  go_enter Try.func12, Try.ntmps12
  go_wp2_with fail
  refine (H.out _).mono ?_; rintro e w1 ⟨rfl, hb1⟩
  obtain ⟨hc, hf⟩ := below_cells hb1
  have hz : w.heap.size + 1 < w1.heap.size := by have := hb1.size; simp at this; omega
  have hz0 : w.heap.size < w1.heap.size := by omega
  have c2 : w1.cell? ⟨w.heap.size, 2, none⟩ = some (.int .i64 k) := by rw [hc _ _ (by simp; omega)]; simp
  have c3 : w1.cell? ⟨w.heap.size, 3, none⟩ = some (.int .i64 d) := by rw [hc _ _ (by simp; omega)]; simp
  have c4 : w1.cell? ⟨w.heap.size, 4, none⟩ = some (.int .i64 q) := by rw [hc _ _ (by simp; omega)]; simp
  have c5 : w1.cell? ⟨w.heap.size, 5, none⟩ = some (.int .i64 c) := by rw [hc _ _ (by simp; omega)]; simp
  go_wp2_with fail
  exact bodyPost_ret (v := .tuple #[.agg #[.int .i64 b, .bool p, .int .i64 k, .int .i64 4, .int .i64 2, .int .i64 64], .int .i64 0]) (by simp [results, Try.results12, go_sem, hc, hz, hz0, hf, c2, c3, c4, c5]) rfl ⟨rfl, by
    repeat (with_reducible refine Below.setCell ?_ (by simp) _)
    exact (((Below.refl _ _).alloc (Nat.le_refl _) _).alloc (by simp) _).trans (hb1.mono (by simp; omega))⟩

set_option maxRecDepth 100000 in
set_option maxHeartbeats 1000000 in
theorem refGrow_3 (b k d q c : Int) (p : Bool) (w : World) (hd : -9223372036854775808 ≤ d ∧ d ≤ 9223372036854775807) (hr : Optp.chk 3 b k d q c = 0) :
    Calls Try.prog 12 #[.int .i64 3, .agg #[.int .i64 b, .bool p, .int .i64 k, .int .i64 d, .int .i64 q, .int .i64 c]] w fun e w' => e = .returned (.tuple #[.agg #[.int .i64 0, .bool false, .int .i64 0, .int .i64 0, .int .i64 0, .int .i64 0], .int .i64 4]) ∧ Below w.heap.size w w' := by
  have H := fun w => refCheck_any 3 b k d q c p w hd
  rw [hr] at H
  replace H := Lib.hid H
  clear hr
  go_enter Try.func12, Try.ntmps12
  go_wp2_with fail
  refine (H.out _).mono ?_; rintro e w1 ⟨rfl, hb1⟩
  obtain ⟨hc, hf⟩ := below_cells hb1
  have hz : w.heap.size + 1 < w1.heap.size := by have := hb1.size; simp at this; omega
  have hz0 : w.heap.size < w1.heap.size := by omega
  have c2 : w1.cell? ⟨w.heap.size, 2, none⟩ = some (.int .i64 k) := by rw [hc _ _ (by simp; omega)]; simp
  have c3 : w1.cell? ⟨w.heap.size, 3, none⟩ = some (.int .i64 d) := by rw [hc _ _ (by simp; omega)]; simp
  have c4 : w1.cell? ⟨w.heap.size, 4, none⟩ = some (.int .i64 q) := by rw [hc _ _ (by simp; omega)]; simp
  have c5 : w1.cell? ⟨w.heap.size, 5, none⟩ = some (.int .i64 c) := by rw [hc _ _ (by simp; omega)]; simp
  go_wp2_with fail
  exact bodyPost_ret (v := .tuple #[.agg #[.int .i64 0, .bool false, .int .i64 0, .int .i64 0, .int .i64 0, .int .i64 0], .int .i64 4]) (by simp [results, Try.results12, go_sem, hc, hz, hz0, hf, c2, c3, c4, c5]) rfl ⟨rfl, by
    repeat (with_reducible refine Below.setCell ?_ (by simp) _)
    exact (((Below.refl _ _).alloc (Nat.le_refl _) _).alloc (by simp) _).trans (hb1.mono (by simp; omega))⟩

end Go.Proofs.Ytekimjjbpdkonaa
