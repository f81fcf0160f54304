/-
  The document's example; the law SetsBoth.
-/
import Derived.Test.YtpgnaahfkcgflaaSeth
namespace Go.Proofs.Ytpgnaahfkcgflaa
set_option linter.unusedSimpArgs false
set_option linter.unusedVariables false
open Go.RowKit

theorem ints_new (w : World) (xs : List Int) : Reads (w.alloc (.cells (xs.map I64).toArray 3)) (w.heap.size + 1) 1 (some ⟨w.heap.size, 0, none⟩) xs.length (xs.map I64) := by
  refine ⟨by simp, fun _ => ⟨_, rfl, Nat.lt_succ_self _, fun j u hu => ?_⟩⟩
  have e : (⟨w.heap.size, 0, none⟩ : Addr).add j = ⟨w.heap.size, j, none⟩ := by unfold Addr.add; split <;> simp_all
  rw [e, (Blk.new w 3 (xs.map I64).toArray).cell j]
  simpa using hu
/-- lists of ints in a new box -/
theorem rowsI_new {w : World} {B : Nat} (t : TypeId) (vs : List Value) (xss : List (List Int)) (hB : B ≤ w.heap.size) (hl : vs.length = xss.length)
    (h : ∀ (i : Nat) (xs : List Int), xss[i]? = some xs → ∃ (Ai : Option Addr) (ni ci : Nat), vs[i]? = some (.slice Ai ni ci) ∧ ni ≤ ci ∧ ci ≤ maxLen ∧ Reads w B 1 Ai ni (xs.map I64)) :
    RowsI (w.alloc (.cells vs.toArray t)) (w.heap.size + 1) (some ⟨w.heap.size, 0, none⟩) vs.length xss := by
  refine ⟨vs, ⟨by simp, fun _ => ⟨_, rfl, Nat.lt_succ_self _, fun j u hu => ?_⟩⟩, hl.symm, fun i xs hi => ?_⟩
  · have e : (⟨w.heap.size, 0, none⟩ : Addr).add j = ⟨w.heap.size, j, none⟩ := by unfold Addr.add; split <;> simp_all
    rw [e, (Blk.new w t vs.toArray).cell j]
    simpa using hu
  · obtain ⟨Ai, ni, ci, h1, h2, h3, h4⟩ := h i xs hi
    exact ⟨Ai, ni, ci, h1, h2, h3, (h4.alloc hB _).more (by omega)⟩
theorem below_thenI {w W W' : World} (h : Below w.heap.size w W) (h' : Below W.heap.size W W') : Below w.heap.size w W' := h.trans (h'.mono h.size)

theorem ex_sets : (allSets [[1, 3, 5], [3, 4, 5]] = true) ∧ (([[1, 3, 5], [3, 4, 5]] : List (List Int)).headD []).filter (inAll (([[1, 3, 5], [3, 4, 5]] : List (List Int)).drop 1)) = [3, 5] := by decide
set_option maxRecDepth 100000 in
set_option maxHeartbeats 1000000 in
theorem alive_any (w : World) : Calls Try.prog 10 #[] w fun e w' => e = .returned (.bool true) ∧ Below w.heap.size w w' := by
  have W1 := ints_new w [1, 3, 5]
  have W2 := ints_new (w.alloc (.cells #[.int .i64 1, .int .i64 3, .int .i64 5] 3)) [3, 4, 5]
  have W3 := rowsI_new (w := (w.alloc (.cells #[.int .i64 1, .int .i64 3, .int .i64 5] 3)).alloc (.cells #[.int .i64 3, .int .i64 4, .int .i64 5] 3)) (B := w.heap.size + 1 + 1) 25 [.slice (some ⟨w.heap.size, 0, none⟩) 3 3, .slice (some ⟨w.heap.size + 1, 0, none⟩) 3 3] [[1, 3, 5], [3, 4, 5]] (by simp) rfl (fun i xs hi => by
    match i, hi with
    | 0, hi =>
      simp only [List.getElem?_cons_zero, Option.some.injEq] at hi
      subst hi
      refine ⟨_, 3, 3, rfl, by omega, by unfold maxLen; omega, ?_⟩
      exact ((W1.alloc (by simp) (.cells #[.int .i64 3, .int .i64 4, .int .i64 5] 3)).more (by omega))
    | 1, hi =>
      simp only [List.getElem?_cons_succ, List.getElem?_cons_zero, Option.some.injEq] at hi
      subst hi
      refine ⟨_, 3, 3, rfl, by omega, by unfold maxLen; omega, ?_⟩
      have e : (w.alloc (.cells #[.int .i64 1, .int .i64 3, .int .i64 5] 3)).heap.size = w.heap.size + 1 := by simp
      rw [e] at W2
      exact W2)
  have BI := both_in (some ⟨w.heap.size + 1 + 1, 0, none⟩) 2 2 [[1, 3, 5], [3, 4, 5]] (((w.alloc (.cells #[.int .i64 1, .int .i64 3, .int .i64 5] 3)).alloc (.cells #[.int .i64 3, .int .i64 4, .int .i64 5] 3)).alloc (.cells #[.slice (some ⟨w.heap.size, 0, none⟩) 3 3, .slice (some ⟨w.heap.size + 1, 0, none⟩) 3 3] 25)) (by simpa using W3) (by omega) (by omega) (by intro xs hx; simp at hx; rcases hx with rfl | rfl <;> simp) ex_sets.1
  rw [ex_sets.2] at BI
  have hB0 : Below w.heap.size w (((w.alloc (.cells #[.int .i64 1, .int .i64 3, .int .i64 5] 3)).alloc (.cells #[.int .i64 3, .int .i64 4, .int .i64 5] 3)).alloc (.cells #[.slice (some ⟨w.heap.size, 0, none⟩) 3 3, .slice (some ⟨w.heap.size + 1, 0, none⟩) 3 3] 25)) := (((Below.refl _ _).alloc (Nat.le_refl _) _).alloc (by simp) _).alloc (by simp; omega) _
  replace BI := Lib.hid BI
  replace hB0 := Lib.hid hB0
  clear W1 W2 W3
  unfold SlErrI at BI
  go_enter Try.func10, Try.ntmps10
  go_wp2_with fail
  refine BI.out.mono ?_; rintro e w1 ⟨Ar, cr, rfl, ho, hB⟩
  have HB1 := Lib.hid (below_thenI hB0.out hB)
  have hr := Reads.of_own ho
  have hr2 := (hr.alloc (Nat.le_refl _) (.cells #[.int .i64 3, .int .i64 5] 3)).more (show w1.heap.size ≤ w1.heap.size + 1 by omega)
  have hn := ints_new w1 [3, 5]
  have SM := Lib.hid (sameI_any Ar (some ⟨w1.heap.size, 0, none⟩) 2 cr 2 (w1.heap.size + 1) [3, 5] (w1.alloc (.cells #[.int .i64 3, .int .i64 5] 3)) hr2 hn (by omega))
  clear hB ho hr hr2 hn
  go_wp2_with fail
  refine SM.out.mono ?_; rintro e w2 ⟨rfl, hD⟩
  have HB2 := Lib.hid (below_thenI (HB1.out.alloc HB1.out.size (.cells #[.int .i64 3, .int .i64 5] 3)) (hD.below _))
  clear hD
  go_wp2_with fail
  go_ret
  exact ⟨rfl, HB2.out⟩

/-- what both of Both say -/
theorem boths (A : Option Addr) (n c : Nat) (xss : List (List Int)) (hn : n < 4294967296) (hs : Short xss) : ∃ (r : List Int) (er : Int),
    (∀ W, RowsI W W.heap.size A n xss → Calls Try.prog 12 #[.slice A n c] W (SlErrI W r er)) ∧ (∀ W, RowsI W W.heap.size A n xss → Calls Try.prog 13 #[.slice A n c] W (SlErrI W r er)) ∧ r.length < 4294967296 := by
  by_cases hb : allSets xss = false ∨ n = 0
  · exact ⟨[], 13, fun W h => both_bad A n c xss W h hn hs hb, fun W h => refBoth_bad A n c xss W h hn hs hb, by simp⟩
  · have ha : allSets xss = true := by
      cases h : allSets xss
      · exact absurd (.inl h) hb
      · rfl
    have h0 : 0 < n := by
      rcases Nat.eq_zero_or_pos n with h | h
      · exact absurd (.inr h) hb
      · exact h
    refine ⟨_, 0, fun W h => both_in A n c xss W h hn h0 hs ha, fun W h => refBoth_in A n c xss W h hn h0 hs ha, ?_⟩
    refine Nat.lt_of_le_of_lt (List.length_filter_le _ _) ?_
    cases xss with
    | nil => simp
    | cons a t => exact hs a (by simp)

set_option maxRecDepth 100000 in
set_option maxHeartbeats 1000000 in
theorem setsBoth_walk (A : Option Addr) (n c : Nat) (xss : List (List Int)) (w : World) (_hnc : n ≤ c) (_m : c ≤ maxLen) (h0 : RowsI w w.heap.size A n xss ∧ ∀ xs ∈ xss, ∀ x ∈ xs, (Lit.int .i64 x).wf = true) :
    Calls Try.prog 3 #[.slice A n c] w fun e w' => e = .returned (.bool true) ∧ Below w.heap.size w w' := by
  have h := h0.1
  have hl := h.len
  have H := Lib.hid (fun W (hW : Below w.heap.size w W) => (h.below hW).more hW.size)
  have G := Lib.hid (fun W hW => great_any A n c W.heap.size xss W hW)
  have BO := Lib.hid (fun hn hs => boths A n c xss hn hs)
  have GS := Lib.hid (fun hg => greatI_short (xss := xss) hg)
  have L := Lib.hid hl
  clear h0 h hl _hnc _m
  go_enter Try.func3, Try.ntmps3
  go_wp2_with fail
  refine (alive_any _).mono ?_; rintro e w1 ⟨rfl, hB1⟩
  replace hB1 := Lib.hid hB1
  go_wp2_with fail
  refine (G.out _ (H.out _ hB1.out)).mono ?_; rintro e w' ⟨rfl, rfl⟩
  cases hg : greatI xss
  · obtain ⟨s1, s2⟩ := GS.out hg
    obtain ⟨r, er, P1, P2, hr⟩ := BO.out (by have := L.out; omega) (fun xs hx => by have := s2 xs hx; omega)
    unfold SlErrI at P1 P2
    have hrl : Hid (r.length < 4294967296) := hr
    replace P1 := Lib.hid P1; replace P2 := Lib.hid P2
    clear hg s1 s2 BO GS G hr
    go_wp2_with fail
    refine (P1.out _ (H.out _ hB1.out)).mono ?_; rintro e w2 ⟨A2, c2, rfl, ho2, hB2⟩
    have HB2 := Lib.hid (below_thenI hB1.out hB2)
    replace ho2 := Lib.hid ho2
    clear hB2
    go_wp2_with fail
    refine (P2.out _ (H.out _ HB2.out)).mono ?_; rintro e w3 ⟨A3, c3, rfl, ho3, hB3⟩
    have HB3 := Lib.hid (below_thenI HB2.out hB3)
    have hr2 := (Reads.of_own (own_belowI ho2.out hB3))
    have SM := Lib.hid (sameI_any A2 A3 r.length c2 c3 w3.heap.size r w3 hr2 (Reads.of_own ho3) hrl.out)
    clear hB3 ho2 ho3 hr2
    go_wp2_with fail
    refine SM.out.mono ?_; rintro e w4 ⟨rfl, hD⟩
    have HB4 := Lib.hid (below_thenI HB3.out (hD.below _))
    clear hD
    go_wp2_with fail
    go_ret
    exact ⟨rfl, HB4.out⟩
  · go_wp2_with fail
    go_ret
    exact ⟨rfl, hB1.out⟩
end Go.Proofs.Ytpgnaahfkcgflaa
