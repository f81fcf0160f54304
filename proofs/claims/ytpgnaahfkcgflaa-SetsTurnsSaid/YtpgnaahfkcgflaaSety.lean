/-
  The document's rest; the bad arguments of both; the law SetsRest.
-/
import Derived.Test.YtpgnaahfkcgflaaSetk
namespace Go.Proofs.Ytpgnaahfkcgflaa
set_option linter.unusedSimpArgs false
set_option linter.unusedVariables false
open Go.RowKit

/-- may there be a rest? -/
def restB (b : Int) (l : List Int) : Bool := decide (0 ≤ b) && decide (b ≤ 20000) && Setp.may l && l.all fun x => decide (x < b)
theorem restB_cases (b : Int) (l : List Int) (h : restB b l = false) : b < 0 ∨ (0 ≤ b ∧ 20000 < b) ∨ (0 ≤ b ∧ b ≤ 20000 ∧ Setp.may l = false) ∨ (0 ≤ b ∧ b ≤ 20000 ∧ Setp.may l = true ∧ ∃ j, ∃ hj : j < l.length, b ≤ l[j] ∧ ∀ i (hi : i < l.length), i < j → l[i] < b) := by
  by_cases h1 : 0 ≤ b
  · by_cases h2 : b ≤ 20000
    · cases hm : Setp.may l
      · exact .inr (.inr (.inl ⟨h1, h2, rfl⟩))
      · refine .inr (.inr (.inr ⟨h1, h2, rfl, ?_⟩))
        have hex : ∃ j, ∃ hj : j < l.length, b ≤ l[j] := by
          unfold restB at h
          rw [hm] at h
          simp only [h1, h2, decide_true, Bool.true_and, List.all_eq_false, decide_eq_true_eq] at h
          obtain ⟨x, hx, hb⟩ := h
          obtain ⟨j, hj, rfl⟩ := List.getElem_of_mem hx
          exact ⟨j, hj, by omega⟩
        refine ⟨Setp.low b l, ?_, ?_, fun i hi hij => Setp.low_lt b l i hi hij⟩
        · obtain ⟨j, hj, hb⟩ := hex
          rcases Nat.lt_or_ge j (Setp.low b l) with hl | hl
          · have := Setp.low_lt b l j hj hl; omega
          · omega
        · apply Setp.low_ge
    · exact .inr (.inl ⟨h1, by omega⟩)
  · exact .inl (by omega)

set_option maxRecDepth 100000 in
set_option maxHeartbeats 1000000 in
theorem rest_bad (b : Int) (A : Option Addr) (n c : Nat) (l : List Int) (w : World) (h : Reads w w.heap.size 1 A n (l.map I64)) (hn : n < 4294967296) (hb : restB b l = false) :
    Calls Try.prog 19 #[.int .i64 b, .slice A n c] w (SlErrI w [] 13) := by
  have hl : l.length = n := by have := h.1; simpa using this
  have M := Lib.hid (may_any A n c w.heap.size l w h hn)
  rcases restB_cases b l hb with h1 | ⟨h1, h2⟩ | ⟨h1, h2, h3⟩ | ⟨h1, h2, h3, j, hj, h4, h5⟩
  · clear h hb hl M
    go_enter Try.func19, Try.ntmps19
    go_wp2_with fail
    go_ret2
    exact slErrI_nil w _ (Below.refl _ _) 13
  · clear h hb hl M
    go_enter Try.func19, Try.ntmps19
    go_wp2_with fail
    go_ret2
    exact slErrI_nil w _ (Below.refl _ _) 13
  · rw [h3] at M
    clear h hb hl h3
    go_enter Try.func19, Try.ntmps19
    go_wp2_with fail
    refine M.out.mono ?_; rintro e w1 ⟨rfl, rfl⟩
    go_wp2_with fail
    go_ret2
    exact slErrI_nil w _ (Below.refl _ _) 13
  · have hn0 : 0 < n := by omega
    have hlast : ∃ y, l[n - 1]? = some y ∧ b ≤ y := by
      refine ⟨l[n - 1]'(by omega), List.getElem?_eq_getElem _, ?_⟩
      by_cases e : j = n - 1
      · subst e; exact h4
      · have := Setp.may_rising h3 j (n - 1) (by omega) (by omega); omega
    obtain ⟨y, hy, hyb⟩ := hlast
    rw [h3] at M
    obtain ⟨ad, rfl, hcell⟩ := ints_cells h hn0
    have c1 : w.cell? (ad.add (n - 1)) = some (.int .i64 y) := by
      obtain ⟨g1, e1⟩ := List.getElem?_eq_some_iff.1 hy
      rw [← e1]; exact hcell (n - 1) g1
    have hwn : IntKind.i64.wrap ((n : Int) - 1) = (n : Int) - 1 := by rw [IntKind.wrap_i64]; omega
    have hn1 : ((n : Int) - 1) = ((n - 1 : Nat) : Int) := by omega
    have hn1b : ((n - 1 : Nat) : Int) < (n : Int) := by omega
    have hn0' : (0 : Int) < (n : Int) := by omega
    replace hy := Lib.hid hy
    rw [hn1] at hwn
    clear hcell h hb hl h3 h4 h5 hj
    generalize hp : n - 1 = p at *
    replace hp := Lib.hid hp
    go_enter Try.func19, Try.ntmps19
    go_wp2_with fail
    refine M.out.mono ?_; rintro e w1 ⟨rfl, rfl⟩
    go_wp2_with fail
    go_ret2
    exact slErrI_nil w _ (Below.refl _ _) 13

set_option maxRecDepth 100000 in
set_option maxHeartbeats 1000000 in
theorem refRest_bad (b : Int) (A : Option Addr) (n c : Nat) (l : List Int) (w : World) (h : Reads w w.heap.size 1 A n (l.map I64)) (hn : n < 4294967296) (hb : restB b l = false) :
    Calls Try.prog 20 #[.int .i64 b, .slice A n c] w (SlErrI w [] 13) := by
  have hl : l.length = n := by have := h.1; simpa using this
  have M := Lib.hid (refMay_any A n c w.heap.size l w h hn)
  rcases restB_cases b l hb with h1 | ⟨h1, h2⟩ | ⟨h1, h2, h3⟩ | ⟨h1, h2, h3, j, hj, h4, h5⟩
  · clear h hb hl M
    go_enter Try.func20, Try.ntmps20
    go_wp2_with fail
    go_ret2
    exact slErrI_nil w _ (Below.refl _ _) 13
  · clear h hb hl M
    go_enter Try.func20, Try.ntmps20
    go_wp2_with fail
    go_ret2
    exact slErrI_nil w _ (Below.refl _ _) 13
  · rw [h3] at M
    clear h hb hl h3
    go_enter Try.func20, Try.ntmps20
    go_wp2_with fail
    refine M.out.mono ?_; rintro e w1 ⟨rfl, hD1⟩
    replace hD1 := Lib.hid (hD1.below w.heap.size)
    go_wp2_with fail
    go_ret2
    exact slErrI_nil w _ hD1.out 13
  · rw [h3] at M
    have H := Lib.hid h
    have L := Lib.hid hl
    have H4 := Lib.hid h4
    have H5 := Lib.hid h5
    clear h hb hl h3 h4 h5
    go_enter Try.func20, Try.ntmps20
    go_wp2_with fail
    refine M.out.mono ?_; rintro e w1 ⟨rfl, hD1⟩
    replace hD1 := Lib.hid hD1
    go_wp2_with fail
    go_loop [6] (fun v6 => ∃ k : Nat, v6 = .int .i64 k ∧ k ≤ j) (fun v6 => j + 1 - (intOf v6).toNat)
    case atStart => exact ⟨0, rfl, by omega⟩
    case round =>
      obtain ⟨k, rfl, hk⟩ := hrel
      have hlt : k < n := by have := L.out; omega
      have hlt' : (k : Int) < n := by omega
      obtain ⟨ad, rfl, hcell⟩ := ints_cells (hD1.out.reads H.out) (by omega)
      have hkx : k < l.length := by rw [L.out]; exact hlt
      have c1 := hcell k hkx
      have Hy : Hid (k < j → l[k] < b) := fun h => H5.out k hkx h
      have Hy2 : Hid (k = j → b ≤ l[k]) := fun h => by subst h; exact H4.out
      clear hcell
      generalize l[k] = y at *
      by_cases hkj : k < j
      · have hy := Hy.out hkj
        go_wp2_with fail
        go_round
        case rel => exact ⟨k + 1, by go_num, by omega⟩
        case measure => simp [intOf]; omega
      · have hy := Hy2.out (by omega)
        go_wp2_with fail
        go_ret2
        exact slErrI_nil w _ (hD1.out.below _) 13
end Go.Proofs.Ytpgnaahfkcgflaa
