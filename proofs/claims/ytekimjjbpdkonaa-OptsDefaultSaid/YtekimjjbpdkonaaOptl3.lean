/-
  The walk of the law OptsDefault: it returns true, and nothing that was there has turned.
-/
import Derived.Test.YtekimjjbpdkonaaOptd
namespace Go.Proofs.Ytekimjjbpdkonaa
open Go.RowKit
set_option linter.unusedSimpArgs false

set_option maxRecDepth 100000 in
set_option maxHeartbeats 1000000 in
theorem optsDefault_walk (v : Int) (w : World) :
    Calls Try.prog 6 #[.int .i64 v] w fun e w' => e = .returned (.bool true) ∧ Below w.heap.size w w' := by
  by_cases hv : Optp.wi v 1 3 = true
  · obtain ⟨n, rfl, h1, h3⟩ : ∃ n : Nat, v = (n : Int) ∧ 1 ≤ n ∧ n ≤ 3 := by
      unfold Optp.wi at hv; simp at hv; exact ⟨v.toNat, by omega, by omega, by omega⟩
    have G1 := fun W => default_in n W h1 h3
    have G2 := fun W => refDefault_in n W h1 h3
    have G3 := fun W => check_any n 1024 (duK n) (duD n) (duQ n) (duC n) false W (by unfold duD; split <;> omega)
    have hc : Optp.chk n 1024 (duK n) (duD n) (duQ n) (duC n) = 0 := by
      have hn : n = 1 ∨ n = 2 ∨ n = 3 := by omega
      rcases hn with rfl | rfl | rfl <;> decide
    rw [hc] at G3
    unfold duS at G1 G2
    generalize duK n = k at *
    generalize duD n = d at *
    generalize duQ n = q at *
    generalize duC n = c at *
    replace G1 := Lib.hid G1; replace G2 := Lib.hid G2; replace G3 := Lib.hid G3
    clear hv h1 h3 hc
    go_enter Try.func6, Try.ntmps6
    go_wp2_with fail
    refine (alive_any _).mono ?_; rintro e w1 ⟨rfl, hB1⟩
    go_wp2_with fail
    refine (G1.out _).mono ?_; rintro e w2 ⟨rfl, hB2⟩
    have hS2 := below_after hB1 hB2
    clear hB1 hB2
    go_wp2_with fail
    refine (G2.out _).mono ?_; rintro e w3 ⟨rfl, hB3⟩
    have hS3 := below_after hS2 (below_boxed hB3)
    obtain ⟨hc3, hf3⟩ := below_cells hB3
    have hz3 : w2.heap.size < w3.heap.size := by have := hB3.size; simp at this; omega
    go_wp2_with fail
    refine (G3.out _).mono ?_; rintro e w4 ⟨rfl, hB4⟩
    go_wp2_with fail
    go_ret
    exact ⟨rfl, below_after (hS3.alloc hS3.size _) hB4⟩
  · have hv' : Optp.wi v 1 3 = false := by simpa using hv
    have G1 := fun W => default_out v W hv'
    have G2 := fun W => refDefault_out v W hv'
    unfold op0 at G1 G2
    replace G1 := Lib.hid G1; replace G2 := Lib.hid G2
    clear hv hv'
    go_enter Try.func6, Try.ntmps6
    go_wp2_with fail
    refine (alive_any _).mono ?_; rintro e w1 ⟨rfl, hB1⟩
    go_wp2_with fail
    refine (G1.out _).mono ?_; rintro e w2 ⟨rfl, hB2⟩
    have hS2 := below_after hB1 hB2
    clear hB1 hB2
    go_wp2_with fail
    refine (G2.out _).mono ?_; rintro e w3 ⟨rfl, hB3⟩
    have hS3 := below_after hS2 (below_boxed hB3)
    obtain ⟨hc3, hf3⟩ := below_cells hB3
    have hz3 : w2.heap.size < w3.heap.size := by have := hB3.size; simp at this; omega
    go_wp2_with fail
    go_ret
    exact ⟨rfl, hS3.alloc hS3.size _⟩
end Go.Proofs.Ytekimjjbpdkonaa
