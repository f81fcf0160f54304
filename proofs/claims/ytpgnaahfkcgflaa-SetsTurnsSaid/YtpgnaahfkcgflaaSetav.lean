/-
  The law SetsAny, walked.
-/
import Derived.Test.YtpgnaahfkcgflaaSetaw
import Derived.Test.YtpgnaahfkcgflaaSetl
namespace Go.Proofs.Ytpgnaahfkcgflaa
set_option linter.unusedSimpArgs false
set_option linter.unusedVariables false
open Go.RowKit

set_option maxRecDepth 100000 in
theorem any_bad (A : Option Addr) (n c : Nat) (xss : List (List Int)) (w : World) (h : RowsI w w.heap.size A n xss) (hn : n < 4294967296) (hs : Short xss) (ha : allSets xss = false) :
    Calls Try.prog 23 #[.slice A n c] w (SlErrI w [] 13) := by
  have BG := Lib.hid (begin_any A n c xss w h hn hs)
  unfold BegRet at BG
  simp only [ha, Bool.false_eq_true, if_false] at BG
  clear h hs ha
  go_enter Try.func23, Try.ntmps23
  go_wp2_with fail
  refine BG.out.mono ?_; rintro e w1 ⟨rfl, hB1⟩
  replace hB1 := Lib.hid hB1
  go_wp2_with fail
  go_ret2
  exact slErrI_nil w _ hB1.out 13

set_option maxRecDepth 100000 in
theorem any_none (A : Option Addr) (c : Nat) (w : World) (h : RowsI w w.heap.size A 0 []) :
    Calls Try.prog 23 #[.slice A 0 c] w (SlErrI w [] 0) := by
  have BG := Lib.hid (begin_any A 0 c [] w h (by omega) (fun xs hx => by cases hx))
  have CL := Lib.hid (fun (W : World) (hW : Below w.heap.size w W) => cloneR_any A 0 c w.heap.size [] W ⟨rfl, fun h => absurd h (by omega)⟩ hW.size (by omega) (fun u hu => by cases hu))
  unfold BegRet at BG
  unfold SlRet at CL
  simp only [show allSets [] = true from rfl, if_true, List.length_nil] at BG
  clear h
  go_enter Try.func23, Try.ntmps23
  go_wp2_with fail
  refine BG.out.mono ?_; rintro e w1 ⟨Ap, cp, gs, rfl, hop, hw1, hB1⟩
  replace hB1 := Lib.hid hB1
  clear hop hw1
  go_wp2_with fail
  refine (CL.out _ hB1.out).mono ?_; rintro e w2 ⟨A3, c3, rfl, hf⟩
  have HB2 := Lib.hid (below_thenI hB1.out hf.below)
  clear hf
  go_wp2_with fail
  go_loopw [6] (fun v6 wr => v6 = .slice A3 0 c3 ∧ Hid (Below w.heap.size w wr)) (fun _ _ => 0)
  case atStart => exact ⟨rfl, HB2⟩
  case round =>
    clear HB2
    obtain ⟨rfl, HB2⟩ := hrel
    go_wp2_with fail
    go_ret2
    exact slErrI_nil w _ HB2.out 0

/-- what both of Any say -/
theorem anys (A : Option Addr) (n c : Nat) (xss : List (List Int)) (hs : Small xss) : ∃ (r : List Int) (er : Int),
    (∀ W, RowsI W W.heap.size A n xss → Calls Try.prog 23 #[.slice A n c] W (SlErrI W r er)) ∧ (∀ W, RowsI W W.heap.size A n xss → Calls Try.prog 24 #[.slice A n c] W (SlErrI W r er)) ∧ r.length < 4294967296 := by
  cases ha : allSets xss
  · exact ⟨[], 13, fun W h => any_bad A n c xss W h (by have := h.len; have := hs.1; omega) hs.short ha, fun W h => refAny_bad A n c xss W h (by have := h.len; have := hs.1; omega) hs.short ha, by simp⟩
  · refine ⟨Setp.anyL xss, 0, fun W h => ?_, fun W h => refAny_in A n c xss W h hs ha, ?_⟩
    · rcases Nat.eq_zero_or_pos n with h0 | h0
      · subst h0
        have : xss = [] := List.eq_nil_of_length_eq_zero h.len
        subst this
        exact any_none A c W h
      · exact any_in A n c xss W h hs.1 hs.short (by
          have := Setp.total_le xss 1000 (fun l hl => hs.2 l hl)
          have h2 : xss.length * 1000 ≤ 1000 * 1000 := Nat.mul_le_mul_right _ hs.1
          omega) ha h0
    · have := Setp.foldl_len 1000 xss [] (fun l hl => hs.2 l hl)
      have h2 : xss.length * 1000 ≤ 1000 * 1000 := Nat.mul_le_mul_right _ hs.1
      unfold Setp.anyL
      simp at this
      omega

set_option maxRecDepth 100000 in
set_option maxHeartbeats 1000000 in
theorem setsAny_walk (A : Option Addr) (n c : Nat) (xss : List (List Int)) (w : World) (_hnc : n ≤ c) (_m : c ≤ maxLen) (h0 : RowsI w w.heap.size A n xss ∧ ∀ xs ∈ xss, ∀ x ∈ xs, (Lit.int .i64 x).wf = true) :
    Calls Try.prog 7 #[.slice A n c] w fun e w' => e = .returned (.bool true) ∧ Below w.heap.size w w' := by
  have h := h0.1
  have hl := h.len
  have H := Lib.hid (fun W (hW : Below w.heap.size w W) => (h.below hW).more hW.size)
  have G := Lib.hid (fun W hW => great_any A n c W.heap.size xss W hW)
  have BO := Lib.hid (fun hs => anys A n c xss hs)
  have GS := Lib.hid (fun hg => greatI_short (xss := xss) hg)
  have L := Lib.hid hl
  clear h0 h hl _hnc _m
  go_enter Try.func7, Try.ntmps7
  go_wp2_with fail
  refine (alive_any _).mono ?_; rintro e w1 ⟨rfl, hB1⟩
  replace hB1 := Lib.hid hB1
  go_wp2_with fail
  refine (G.out _ (H.out _ hB1.out)).mono ?_; rintro e w' ⟨rfl, rfl⟩
  cases hg : greatI xss
  · obtain ⟨s1, s2⟩ := GS.out hg
    obtain ⟨r, er, P1, P2, hr⟩ := BO.out ⟨by omega, fun xs hx => by have := s2 xs hx; omega⟩
    unfold SlErrI at P1 P2
    have hrl : Hid (r.length < 4294967296) := hr
    replace P1 := Lib.hid P1; replace P2 := Lib.hid P2
    clear hg s1 s2 BO GS G hr
    go_wp2_with fail
    refine (P1.out _ (H.out _ hB1.out)).mono ?_; rintro e w2 ⟨A2, c2, rfl, ho2, hB2⟩
    have HB2 := Lib.hid (below_thenI hB1.out hB2)
    replace ho2 := Lib.hid ho2
    clear hB2
    go_wp2_with fail
    refine (P2.out _ (H.out _ HB2.out)).mono ?_; rintro e w3 ⟨A3, c3, rfl, ho3, hB3⟩
    have HB3 := Lib.hid (below_thenI HB2.out hB3)
    have hr2 := (Reads.of_own (own_belowI ho2.out hB3))
    have SM := Lib.hid (sameI_any A2 A3 r.length c2 c3 w3.heap.size r w3 hr2 (Reads.of_own ho3) hrl.out)
    clear hB3 ho2 ho3 hr2
    go_wp2_with fail
    refine SM.out.mono ?_; rintro e w4 ⟨rfl, hD⟩
    have HB4 := Lib.hid (below_thenI HB3.out (hD.below _))
    clear hD
    go_wp2_with fail
    go_ret
    exact ⟨rfl, HB4.out⟩
  · go_wp2_with fail
    go_ret
    exact ⟨rfl, hB1.out⟩
end Go.Proofs.Ytpgnaahfkcgflaa
