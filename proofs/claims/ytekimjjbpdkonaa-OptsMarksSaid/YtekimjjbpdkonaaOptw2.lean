/-
  Whether options may be, as the program says it.
-/
import Derived.Test.YtekimjjbpdkonaaOptw
namespace Go.Proofs.Ytekimjjbpdkonaa
open Go.RowKit

namespace Optp
theorem chk_out {v b k d q c : Int} (h : v < 1 ∨ 3 < v) : chk v b k d q c = 4 := by unfold chk; rw [if_pos h]
theorem chk_b {v b k d q c : Int} (h : ¬(v < 1 ∨ 3 < v)) (hb : wi b 16 32768 = false) : chk v b k d q c = 9 := by unfold chk; rw [if_neg h, if_pos hb]
theorem chk_1 {b k d q c : Int} (hb : wi b 16 32768 = true) : chk 1 b k d q c = if k = 0 ∧ d = 0 ∧ q = 0 ∧ c = 0 then 0 else 9 := by
  unfold chk; rw [if_neg (by omega), if_neg (by simp [hb]), if_pos rfl]
theorem chk_k {v b k d q c : Int} (h : v = 2 ∨ v = 3) (hb : wi b 16 32768 = true) (hk : wi k 1 64 = false) : chk v b k d q c = 9 := by
  unfold chk; rw [if_neg (by omega), if_neg (by simp [hb]), if_neg (by omega), if_pos hk]
theorem chk_2 {b k d q c : Int} (hb : wi b 16 32768 = true) (hk : wi k 1 64 = true) : chk 2 b k d q c = if d = 0 ∧ q = 0 ∧ c = 0 then 0 else 9 := by
  unfold chk; rw [if_neg (by omega), if_neg (by simp [hb]), if_neg (by omega), if_neg (by simp [hk]), if_pos rfl]
theorem chk_3 {b k d q c : Int} (hb : wi b 16 32768 = true) (hk : wi k 1 64 = true) : chk 3 b k d q c = if stp d q c = true then 0 else 9 := by
  unfold chk; rw [if_neg (by omega), if_neg (by simp [hb]), if_neg (by omega), if_neg (by simp [hk]), if_neg (by omega)]
end Optp

theorem below_cells {W w1 : World} (hb : Below W.heap.size W w1) : (∀ b o, b < W.heap.size → w1.cell? ⟨b, o, none⟩ = W.cell? ⟨b, o, none⟩) ∧ (∀ b o, b < W.heap.size → w1.frozen? ⟨b, o, none⟩ = W.frozen? ⟨b, o, none⟩) :=
  ⟨fun b o h => hb.cell (p := ⟨b, o, none⟩) h, fun b o h => hb.frozen (p := ⟨b, o, none⟩) h⟩

set_option maxRecDepth 100000 in
set_option maxHeartbeats 4000000 in
theorem check_any (v b k d q c : Int) (p : Bool) (w : World) (hd : -9223372036854775808 ≤ d ∧ d ≤ 9223372036854775807) :
    Calls Try.prog 9 #[.int .i64 v, .agg #[.int .i64 b, .bool p, .int .i64 k, .int .i64 d, .int .i64 q, .int .i64 c]] w fun e w' => e = .returned (.int .i64 (Optp.chk v b k d q c)) ∧ Below w.heap.size w w' := by
  have H1 := fun w => within_any b 16 32768 w
  have H2 := fun w => within_any k 1 64 w
  have H3 := fun w => stripes_any b k d q c p w hd
  have hv : v < 1 ∨ 3 < v ∨ v = 1 ∨ v = 2 ∨ v = 3 := by omega
  rcases hv with hv | hv | rfl | rfl | rfl
  · rw [Optp.chk_out (Or.inl hv)]
    clear H2 H3
    generalize Optp.wi b 16 32768 = B1 at *
    replace H1 := Lib.hid H1
    go_enter Try.func9, Try.ntmps9
    go_wp2_with fail; refine (H1.out _).mono ?_; rintro e w' ⟨rfl, rfl⟩
    go_wp2_with fail
    go_ret
    exact ⟨rfl, ((Below.refl _ _).alloc (Nat.le_refl _) _).alloc (by simp) _⟩
  · rw [Optp.chk_out (Or.inr hv)]
    clear H2 H3
    generalize Optp.wi b 16 32768 = B1 at *
    replace H1 := Lib.hid H1
    go_enter Try.func9, Try.ntmps9
    go_wp2_with fail; refine (H1.out _).mono ?_; rintro e w' ⟨rfl, rfl⟩
    go_wp2_with fail
    go_ret
    exact ⟨rfl, ((Below.refl _ _).alloc (Nat.le_refl _) _).alloc (by simp) _⟩
  · clear H2 H3
    cases hB : Optp.wi b 16 32768
    · rw [Optp.chk_b (by omega) hB]; rw [hB] at H1
      replace H1 := Lib.hid H1
      go_enter Try.func9, Try.ntmps9
      go_wp2_with fail; refine (H1.out _).mono ?_; rintro e w' ⟨rfl, rfl⟩
      go_wp2_with fail
      go_ret
      exact ⟨rfl, ((Below.refl _ _).alloc (Nat.le_refl _) _).alloc (by simp) _⟩
    · rw [Optp.chk_1 hB]; rw [hB] at H1
      replace H1 := Lib.hid H1
      clear hB
      by_cases hk : k = 0 ∧ d = 0 ∧ q = 0 ∧ c = 0
      · rw [if_pos hk]
        obtain ⟨rfl, rfl, rfl, rfl⟩ := hk
        go_enter Try.func9, Try.ntmps9
        go_wp2_with fail; refine (H1.out _).mono ?_; rintro e w' ⟨rfl, rfl⟩
        go_wp2_with fail
        go_ret
        exact ⟨rfl, ((Below.refl _ _).alloc (Nat.le_refl _) _).alloc (by simp) _⟩
      · rw [if_neg hk]
        go_enter Try.func9, Try.ntmps9
        go_wp2_with fail; refine (H1.out _).mono ?_; rintro e w' ⟨rfl, rfl⟩
        go_wp2_with fail
        all_goals first | (go_ret; exact ⟨rfl, ((Below.refl _ _).alloc (Nat.le_refl _) _).alloc (by simp) _⟩) | (exfalso; simp_all; done) | (exfalso; omega)
  · clear H3
    cases hB : Optp.wi b 16 32768
    · rw [Optp.chk_b (by omega) hB]; rw [hB] at H1
      replace H1 := Lib.hid H1
      clear H2
      go_enter Try.func9, Try.ntmps9
      go_wp2_with fail; refine (H1.out _).mono ?_; rintro e w' ⟨rfl, rfl⟩
      go_wp2_with fail
      all_goals first | (go_ret; exact ⟨rfl, ((Below.refl _ _).alloc (Nat.le_refl _) _).alloc (by simp) _⟩) | (exfalso; simp_all; done) | (exfalso; omega)
    · rw [hB] at H1
      replace H1 := Lib.hid H1
      cases hK : Optp.wi k 1 64
      · rw [Optp.chk_k (Or.inl rfl) hB hK]; rw [hK] at H2
        replace H2 := Lib.hid H2
        go_enter Try.func9, Try.ntmps9
        go_wp2_with fail; refine (H1.out _).mono ?_; rintro e w' ⟨rfl, rfl⟩
        go_wp2_with fail; refine (H2.out _).mono ?_; rintro e w' ⟨rfl, rfl⟩
        go_wp2_with fail
        all_goals first | (go_ret; exact ⟨rfl, ((Below.refl _ _).alloc (Nat.le_refl _) _).alloc (by simp) _⟩) | (exfalso; simp_all; done) | (exfalso; omega)
      · rw [Optp.chk_2 hB hK]; rw [hK] at H2
        replace H2 := Lib.hid H2
        clear hB hK
        by_cases hk : d = 0 ∧ q = 0 ∧ c = 0
        · rw [if_pos hk]
          obtain ⟨rfl, rfl, rfl⟩ := hk
          go_enter Try.func9, Try.ntmps9
          go_wp2_with fail; refine (H1.out _).mono ?_; rintro e w' ⟨rfl, rfl⟩
          go_wp2_with fail; refine (H2.out _).mono ?_; rintro e w' ⟨rfl, rfl⟩
          go_wp2_with fail
          all_goals first | (go_ret; exact ⟨rfl, ((Below.refl _ _).alloc (Nat.le_refl _) _).alloc (by simp) _⟩) | (exfalso; simp_all; done) | (exfalso; omega)
        · rw [if_neg hk]
          go_enter Try.func9, Try.ntmps9
          go_wp2_with fail; refine (H1.out _).mono ?_; rintro e w' ⟨rfl, rfl⟩
          go_wp2_with fail; refine (H2.out _).mono ?_; rintro e w' ⟨rfl, rfl⟩
          go_wp2_with fail
          all_goals first | (go_ret; exact ⟨rfl, ((Below.refl _ _).alloc (Nat.le_refl _) _).alloc (by simp) _⟩) | (exfalso; simp_all; done) | (exfalso; omega)
  · cases hB : Optp.wi b 16 32768
    · rw [Optp.chk_b (by omega) hB]; rw [hB] at H1
      replace H1 := Lib.hid H1
      clear H2 H3
      go_enter Try.func9, Try.ntmps9
      go_wp2_with fail; refine (H1.out _).mono ?_; rintro e w' ⟨rfl, rfl⟩
      go_wp2_with fail
      all_goals first | (go_ret; exact ⟨rfl, ((Below.refl _ _).alloc (Nat.le_refl _) _).alloc (by simp) _⟩) | (exfalso; simp_all; done) | (exfalso; omega)
    · rw [hB] at H1
      replace H1 := Lib.hid H1
      cases hS : Optp.stp d q c
      · rw [hS] at H3
        replace H3 := Lib.hid H3
        cases hK : Optp.wi k 1 64
        · rw [Optp.chk_k (Or.inr rfl) hB hK]
          clear H2 hB hK hS
          go_enter Try.func9, Try.ntmps9
          go_wp2_with fail; refine (H1.out _).mono ?_; rintro e w' ⟨rfl, rfl⟩
          go_wp2_with fail
          refine (H3.out _).mono ?_; rintro e w1 ⟨rfl, hb1⟩
          obtain ⟨hc, hf⟩ := below_cells hb1
          have hz : w.heap.size + 1 < w1.heap.size := by have := hb1.size; simp at this; omega
          go_wp2_with fail
          all_goals first | (go_ret; refine ⟨rfl, ?_⟩; (repeat (with_reducible refine Below.setCell ?_ (by simp) _)); exact (((Below.refl _ _).alloc (Nat.le_refl _) _).alloc (by simp) _).trans (hb1.mono (by simp; omega))) | (exfalso; simp_all; done) | (exfalso; omega)
        · rw [Optp.chk_3 hB hK, if_neg (by simp [hS])]
          clear H2 hB hK hS
          go_enter Try.func9, Try.ntmps9
          go_wp2_with fail; refine (H1.out _).mono ?_; rintro e w' ⟨rfl, rfl⟩
          go_wp2_with fail
          refine (H3.out _).mono ?_; rintro e w1 ⟨rfl, hb1⟩
          obtain ⟨hc, hf⟩ := below_cells hb1
          have hz : w.heap.size + 1 < w1.heap.size := by have := hb1.size; simp at this; omega
          go_wp2_with fail
          all_goals first | (go_ret; refine ⟨rfl, ?_⟩; (repeat (with_reducible refine Below.setCell ?_ (by simp) _)); exact (((Below.refl _ _).alloc (Nat.le_refl _) _).alloc (by simp) _).trans (hb1.mono (by simp; omega))) | (exfalso; simp_all; done) | (exfalso; omega)
      · rw [hS] at H3
        replace H3 := Lib.hid H3
        cases hK : Optp.wi k 1 64
        · rw [Optp.chk_k (Or.inr rfl) hB hK]; rw [hK] at H2
          replace H2 := Lib.hid H2
          clear hB hK hS
          go_enter Try.func9, Try.ntmps9
          go_wp2_with fail; refine (H1.out _).mono ?_; rintro e w' ⟨rfl, rfl⟩
          go_wp2_with fail
          refine (H3.out _).mono ?_; rintro e w1 ⟨rfl, hb1⟩
          obtain ⟨hc, hf⟩ := below_cells hb1
          have hz : w.heap.size + 1 < w1.heap.size := by have := hb1.size; simp at this; omega
          go_wp2_with fail; refine (H2.out _).mono ?_; rintro e w' ⟨rfl, rfl⟩
          go_wp2_with fail
          all_goals first | (go_ret; refine ⟨rfl, ?_⟩; (repeat (with_reducible refine Below.setCell ?_ (by simp) _)); exact (((Below.refl _ _).alloc (Nat.le_refl _) _).alloc (by simp) _).trans (hb1.mono (by simp; omega))) | (exfalso; simp_all; done) | (exfalso; omega)
        · rw [Optp.chk_3 hB hK, if_pos hS]; rw [hK] at H2
          replace H2 := Lib.hid H2
          clear hB hK hS
          go_enter Try.func9, Try.ntmps9
          go_wp2_with fail; refine (H1.out _).mono ?_; rintro e w' ⟨rfl, rfl⟩
          go_wp2_with fail
          refine (H3.out _).mono ?_; rintro e w1 ⟨rfl, hb1⟩
          obtain ⟨hc, hf⟩ := below_cells hb1
          have hz : w.heap.size + 1 < w1.heap.size := by have := hb1.size; simp at this; omega
          go_wp2_with fail; refine (H2.out _).mono ?_; rintro e w' ⟨rfl, rfl⟩
          go_wp2_with fail
          all_goals first | (go_ret; refine ⟨rfl, ?_⟩; (repeat (with_reducible refine Below.setCell ?_ (by simp) _)); exact (((Below.refl _ _).alloc (Nat.le_refl _) _).alloc (by simp) _).trans (hb1.mono (by simp; omega))) | (exfalso; simp_all; done) | (exfalso; omega)
end Go.Proofs.Ytekimjjbpdkonaa
