/-
  The walk of the law OptsGrows: it returns true, and nothing that was there has turned.
-/
import Derived.Test.YtekimjjbpdkonaaOptl
namespace Go.Proofs.Ytekimjjbpdkonaa
open Go.RowKit
set_option linter.unusedSimpArgs false

namespace Optp
theorem chk_in {v b k d q c : Int} (h : chk v b k d q c = 0) : v = 1 ∨ v = 2 ∨ v = 3 := by
  by_cases hv : v < 1 ∨ 3 < v
  · rw [chk_out hv] at h; omega
  · omega
theorem chk_wb {v b k d q c : Int} (h : chk v b k d q c = 0) : wi b 16 32768 = true := by
  cases hb : wi b 16 32768
  · by_cases hv : v < 1 ∨ 3 < v
    · rw [chk_out hv] at h; omega
    · rw [chk_b hv hb] at h; omega
  · rfl
theorem grow1_ok {b k d q c : Int} (h : chk 1 b k d q c = 0) : chk 2 b 16 d q c = 0 ∧ d = 0 := by
  have hb := chk_wb h
  rw [chk_1 hb] at h
  split at h
  · rename_i hz
    rw [chk_2 hb (by decide), if_pos ⟨hz.2.1, hz.2.2.1, hz.2.2.2⟩]; exact ⟨rfl, hz.2.1⟩
  · omega
theorem grow2_ok {b k d q c : Int} (h : chk 2 b k d q c = 0) : chk 3 b k 4 2 64 = 0 := by
  have hb := chk_wb h
  cases hk : wi k 1 64
  · rw [chk_k (Or.inl rfl) hb hk] at h; omega
  · rw [chk_3 hb hk, if_pos (by decide)]
end Optp

set_option maxRecDepth 100000 in
set_option maxHeartbeats 2000000 in
theorem optsGrows_walk (v b : Int) (p : Bool) (k d q c : Int) (w : World) (hd : -9223372036854775808 ≤ d ∧ d ≤ 9223372036854775807) :
    Calls Try.prog 4 #[.int .i64 v, .agg #[.int .i64 b, .bool p, .int .i64 k, .int .i64 d, .int .i64 q, .int .i64 c]] w fun e w' => e = .returned (.bool true) ∧ Below w.heap.size w w' := by
  by_cases h0 : Optp.chk v b k d q c = 0
  · rcases Optp.chk_in h0 with rfl | rfl | rfl
    · have G1 := fun W => grow_1 b k d q c p W hd h0
      have G2 := fun W => refGrow_1 b k d q c p W hd h0
      have G3 := fun W => check_any 2 b 16 d q c p W (by omega)
      rw [(Optp.grow1_ok h0).1] at G3
      replace G1 := Lib.hid G1; replace G2 := Lib.hid G2; replace G3 := Lib.hid G3
      clear h0 hd
      go_enter Try.func4, Try.ntmps4
      go_wp2_with fail
      refine (alive_any _).mono ?_; rintro e w1 ⟨rfl, hB1⟩
      obtain ⟨-, z0, z1, z2, z3, z4, z5⟩ := boxed_of hB1
      go_wp2_with fail
      refine (G1.out _).mono ?_; rintro e w2 ⟨rfl, hB2⟩
      have hS2 := below_after hB1 hB2
      obtain ⟨-, a0, a1, a2, a3, a4, a5⟩ := boxed_of hS2
      have hz2 : w.heap.size < w2.heap.size := by have := hS2.size; simp at this; omega
      go_wp2_with fail
      refine (G2.out _).mono ?_; rintro e w3 ⟨rfl, hB3⟩
      have hS3 := below_after hS2 (below_boxed hB3)
      obtain ⟨hc3, hf3⟩ := below_cells hB3
      have hz3 : w2.heap.size < w3.heap.size := by have := hB3.size; simp at this; omega
      clear a0 a1 a2 a3 a4 a5 z0 z1 z2 z3 z4 z5
      go_wp2_with fail
      refine (G3.out _).mono ?_; rintro e w4 ⟨rfl, hB4⟩
      go_wp2_with fail
      go_ret
      exact ⟨rfl, below_boxed (below_after (hS3.alloc hS3.size _) hB4)⟩
    · have G1 := fun W => grow_2 b k d q c p W hd h0
      have G2 := fun W => refGrow_2 b k d q c p W hd h0
      have G3 := fun W => check_any 3 b k 4 2 64 p W (by omega)
      rw [Optp.grow2_ok h0] at G3
      replace G1 := Lib.hid G1; replace G2 := Lib.hid G2; replace G3 := Lib.hid G3
      clear h0 hd
      go_enter Try.func4, Try.ntmps4
      go_wp2_with fail
      refine (alive_any _).mono ?_; rintro e w1 ⟨rfl, hB1⟩
      obtain ⟨-, z0, z1, z2, z3, z4, z5⟩ := boxed_of hB1
      go_wp2_with fail
      refine (G1.out _).mono ?_; rintro e w2 ⟨rfl, hB2⟩
      have hS2 := below_after hB1 hB2
      obtain ⟨-, a0, a1, a2, a3, a4, a5⟩ := boxed_of hS2
      have hz2 : w.heap.size < w2.heap.size := by have := hS2.size; simp at this; omega
      go_wp2_with fail
      refine (G2.out _).mono ?_; rintro e w3 ⟨rfl, hB3⟩
      have hS3 := below_after hS2 (below_boxed hB3)
      obtain ⟨hc3, hf3⟩ := below_cells hB3
      have hz3 : w2.heap.size < w3.heap.size := by have := hB3.size; simp at this; omega
      clear a0 a1 a2 a3 a4 a5 z0 z1 z2 z3 z4 z5
      go_wp2_with fail
      refine (G3.out _).mono ?_; rintro e w4 ⟨rfl, hB4⟩
      go_wp2_with fail
      go_ret
      exact ⟨rfl, below_boxed (below_after (hS3.alloc hS3.size _) hB4)⟩
    · have G1 := fun W => grow_3 b k d q c p W hd h0
      have G2 := fun W => refGrow_3 b k d q c p W hd h0
      replace G1 := Lib.hid G1; replace G2 := Lib.hid G2
      clear h0 hd
      go_enter Try.func4, Try.ntmps4
      go_wp2_with fail
      refine (alive_any _).mono ?_; rintro e w1 ⟨rfl, hB1⟩
      obtain ⟨-, z0, z1, z2, z3, z4, z5⟩ := boxed_of hB1
      go_wp2_with fail
      refine (G1.out _).mono ?_; rintro e w2 ⟨rfl, hB2⟩
      have hS2 := below_after hB1 hB2
      obtain ⟨-, a0, a1, a2, a3, a4, a5⟩ := boxed_of hS2
      have hz2 : w.heap.size < w2.heap.size := by have := hS2.size; simp at this; omega
      go_wp2_with fail
      refine (G2.out _).mono ?_; rintro e w3 ⟨rfl, hB3⟩
      have hS3 := below_after hS2 (below_boxed hB3)
      obtain ⟨hc3, hf3⟩ := below_cells hB3
      have hz3 : w2.heap.size < w3.heap.size := by have := hB3.size; simp at this; omega
      clear a0 a1 a2 a3 a4 a5 z0 z1 z2 z3 z4 z5
      go_wp2_with fail
      go_ret
      exact ⟨rfl, below_boxed (hS3.alloc hS3.size _)⟩
  · have G1 := fun W => grow_bad v b k d q c p W hd _ rfl h0
    have G2 := fun W => refGrow_bad v b k d q c p W hd _ rfl h0
    have hx := bne_iff_ne.2 h0
    generalize Optp.chk v b k d q c = r at *
    replace G1 := Lib.hid G1; replace G2 := Lib.hid G2
    clear h0 hd
    go_enter Try.func4, Try.ntmps4
    go_wp2_with fail
    refine (alive_any _).mono ?_; rintro e w1 ⟨rfl, hB1⟩
    obtain ⟨-, z0, z1, z2, z3, z4, z5⟩ := boxed_of hB1
    go_wp2_with fail
    refine (G1.out _).mono ?_; rintro e w2 ⟨rfl, hB2⟩
    have hS2 := below_after hB1 hB2
    obtain ⟨-, a0, a1, a2, a3, a4, a5⟩ := boxed_of hS2
    have hz2 : w.heap.size < w2.heap.size := by have := hS2.size; simp at this; omega
    go_wp2_with fail
    refine (G2.out _).mono ?_; rintro e w3 ⟨rfl, hB3⟩
    have hS3 := below_after hS2 (below_boxed hB3)
    obtain ⟨hc3, hf3⟩ := below_cells hB3
    have hz3 : w2.heap.size < w3.heap.size := by have := hB3.size; simp at this; omega
    clear a0 a1 a2 a3 a4 a5 z0 z1 z2 z3 z4 z5
    go_wp2_with fail
    go_ret
    exact ⟨rfl, below_boxed (hS3.alloc hS3.size _)⟩
end Go.Proofs.Ytekimjjbpdkonaa
