/-
  The law RsMends, walked.
-/
import Derived.Test.YtjbedcgacnnanaaRss
namespace Go.Proofs.Ytjbedcgacnnanaa
set_option linter.unusedSimpArgs false
set_option linter.unusedVariables false
open Go.RowKit

namespace Rsp
theorem parV_le (m : Int) (l : List (List UInt8)) : (parV m l).length ≤ 255 := by
  by_cases hok : parOk m l = true
  · rw [parV_yes hok, timesP_len]
    have h1 : may l.length m = true := by unfold parOk at hok; rw [Bool.and_eq_true] at hok; exact hok.1
    unfold may at h1; simp at h1; omega
  · rw [parV_no (by simpa using hok)]; simp
theorem mendV_le (k m : Int) (l : List (List UInt8)) (g : List Bool) : (mendV k m l g).length ≤ 510 := by
  by_cases hm : may k m = true ∧ (l.length : Int) = k + m ∧ (g.length : Int) = k + m
  · by_cases he : mendE k m l g = 0
    · unfold mendV
      rw [if_pos he, List.length_append, dataV_len]
      have := parV_le m (dataV k.toNat (fst k.toNat g g.length) (rowsAt l (fst k.toNat g g.length)))
      have h1 := hm.1
      unfold may at h1; simp at h1; omega
    · unfold mendV; rw [if_neg he]; simp
  · rw [(mend_bad hm).2]; simp
end Rsp
section
variable (k m : Int) (A Ag : Option Addr) (n c ng cg : Nat) (xss : List (List UInt8)) (gs : List Bool) (w : World)
theorem mend_any (hn : n ≤ 100000) (hng : ng ≤ 100000) (hx : Rows8 w w.heap.size A n xss) (hg : Reads w w.heap.size 1 Ag ng (gs.map Value.bool)) (hL : ∀ x ∈ xss, x.length ≤ 1000000) :
    Calls Try.prog 15 #[.int .i64 k, .int .i64 m, .slice A n c, .slice Ag ng cg] w (LsErr w (Rsp.mendV k m xss gs).length (Rsp.mendV k m xss gs) (Rsp.mendE k m xss gs)) := by
  by_cases h : Rsp.may k m = true ∧ (n : Int) = k + m ∧ (ng : Int) = k + m
  · obtain ⟨hm, h1, h2⟩ := h
    obtain ⟨n0, p, rfl, rfl, h3, hq⟩ : ∃ n0 p : Nat, k = (n0 : Int) ∧ m = (p : Int) ∧ 1 ≤ n0 ∧ n0 + p ≤ 255 := by unfold Rsp.may at hm; simp at hm; exact ⟨k.toNat, m.toNat, by omega, by omega, by omega, by omega⟩
    obtain rfl : n = n0 + p := by omega
    obtain rfl : ng = n0 + p := by omega
    exact mend_in n0 p _ A Ag c cg xss gs w rfl h3 hq hx hg hL
  · have hl := hx.len
    have hgl := hg.len
    have hb := Rsp.mend_bad (k := k) (m := m) (l := xss) (g := gs) (by rw [hl, hgl]; exact h)
    rw [hb.1, hb.2]
    exact mend_bad k m A Ag n c ng cg xss gs w hl hgl hn hng h
theorem refMend_any (hn : n ≤ 100000) (hng : ng ≤ 100000) (hx : Rows8 w w.heap.size A n xss) (hg : Reads w w.heap.size 1 Ag ng (gs.map Value.bool)) (hL : ∀ x ∈ xss, x.length ≤ 1000000) :
    Calls Try.prog 16 #[.int .i64 k, .int .i64 m, .slice A n c, .slice Ag ng cg] w (LsErr w (Rsp.mendV k m xss gs).length (Rsp.mendV k m xss gs) (Rsp.mendE k m xss gs)) := by
  by_cases h : Rsp.may k m = true ∧ (n : Int) = k + m ∧ (ng : Int) = k + m
  · obtain ⟨hm, h1, h2⟩ := h
    obtain ⟨n0, p, rfl, rfl, h3, hq⟩ : ∃ n0 p : Nat, k = (n0 : Int) ∧ m = (p : Int) ∧ 1 ≤ n0 ∧ n0 + p ≤ 255 := by unfold Rsp.may at hm; simp at hm; exact ⟨k.toNat, m.toNat, by omega, by omega, by omega, by omega⟩
    obtain rfl : n = n0 + p := by omega
    obtain rfl : ng = n0 + p := by omega
    exact refMend_in n0 p _ A Ag c cg xss gs w rfl h3 hq hx hg hL
  · have hl := hx.len
    have hgl := hg.len
    have hb := Rsp.mend_bad (k := k) (m := m) (l := xss) (g := gs) (by rw [hl, hgl]; exact h)
    rw [hb.1, hb.2]
    exact refMend_bad k m A Ag n c ng cg xss gs w hl hgl hn hng h
end

set_option maxRecDepth 100000 in
set_option maxHeartbeats 4000000 in
theorem rsMends_walk (k m : Int) (A : Option Addr) (n c : Nat) (xss : List (List UInt8)) (Ag : Option Addr) (ng cg : Nat) (gs : List Bool) (w : World) (_hk : (Lit.int .i64 k).wf = true) (_hm : (Lit.int .i64 m).wf = true) (_l : n ≤ c) (_m : c ≤ maxLen) (h : Rows8 w w.heap.size A n xss) (_lg : ng ≤ cg) (_mg : cg ≤ maxLen) (hg0 : Reads w w.heap.size 1 Ag ng (gs.map Value.bool)) :
    Calls Try.prog 4 #[.int .i64 k, .int .i64 m, .slice A n c, .slice Ag ng cg] w fun e w' => e = .returned (.bool true) ∧ Below w.heap.size w w' := by
  have hl := h.len
  have H := Lib.hid (fun W (hW : Below w.heap.size w W) => (h.below hW).more hW.size)
  have HG := Lib.hid (fun W (hW : Below w.heap.size w W) => (hg0.below hW).more hW.size)
  have KG : Hid (∀ W, Below w.heap.size w W → Calls Try.prog 10 #[.slice A n c] W fun e w' => e = .returned (.bool (Rsp.great xss)) ∧ W = w') := fun W hW => greatL_any A n c _ xss W (H.out W hW)
  have KMy : Hid (∀ W, Calls Try.prog 11 #[.int .i64 k, .int .i64 m] W fun e w' => e = .returned (.bool (Rsp.may k m)) ∧ W = w') := fun W => rsRefMay_any _ _ W
  cases hg : Rsp.great xss with
  | true =>
    rw [hg] at KG
    clear h hl hg KMy hg0
    go_enter Try.func4, Try.ntmps4
    go_wp2_with fail; refine (rsAlive_any _).mono ?_; rintro e w1 ⟨rfl, hB1⟩
    replace hB1 := Lib.hid hB1
    go_wp2_with fail; refine (KG.out _ hB1.out).mono ?_; rintro e w' ⟨rfl, rfl⟩
    go_wp2_with fail
    go_ret
    exact ⟨rfl, hB1.out⟩
  | false =>
    rw [hg] at KG
    have hgp := Rsp.great_parts hg
    have hn : n ≤ 16 := by omega
    have hsm := small_of_great hg
    by_cases hng : ng ≤ 300
    · have hng' : ¬ ((300 : Int) < (ng : Int)) := by omega
      have HP : Hid (∀ W, Below w.heap.size w W → Calls Try.prog 15 #[.int .i64 k, .int .i64 m, .slice A n c, .slice Ag ng cg] W (LsErr W (Rsp.mendV k m xss gs).length (Rsp.mendV k m xss gs) (Rsp.mendE k m xss gs))) := fun W hW => mend_any k m A Ag n c ng cg xss gs W (by omega) (by omega) (H.out W hW) (HG.out W hW) hsm
      have HR : Hid (∀ W, Below w.heap.size w W → Calls Try.prog 16 #[.int .i64 k, .int .i64 m, .slice A n c, .slice Ag ng cg] W (LsErr W (Rsp.mendV k m xss gs).length (Rsp.mendV k m xss gs) (Rsp.mendE k m xss gs))) := fun W hW => refMend_any k m A Ag n c ng cg xss gs W (by omega) (by omega) (H.out W hW) (HG.out W hW) hsm
      have hNl := Rsp.mendV_le k m xss gs
      unfold LsErr at HP HR
      generalize Rsp.mendV k m xss gs = V at *
      generalize Rsp.mendE k m xss gs = E at *
      generalize hN : V.length = N at *
      have T2 : Hid (∀ (W : World) (A1 A2 : Option Addr) (c1 c2 : Nat), Rows8 W W.heap.size A1 N V → Rows8 W W.heap.size A2 N V → Calls Try.prog 14 #[.slice A1 N c1, .slice A2 N c2] W fun e w' => e = .returned (.bool true) ∧ Dr W w') := fun W A1 A2 c1 c2 h1 h2 => by
        have h := sameL_any A1 A2 N N c1 c2 _ _ V V W h1 h2 (by omega)
        rwa [decide_eq_true rfl] at h
      have hcase : Rsp.may k m = false ∨ (Rsp.may k m = true ∧ k + m ≤ 20 ∧ 0 ≤ k + m) ∨ (Rsp.may k m = true ∧ 20 < k + m ∧ k + m ≤ 255) := by
        cases hmy : Rsp.may k m with
        | false => exact .inl rfl
        | true =>
          unfold Rsp.may at hmy; simp at hmy
          by_cases h20 : k + m ≤ 20
          · exact .inr (.inl ⟨rfl, h20, by omega⟩)
          · exact .inr (.inr ⟨rfl, by omega, by omega⟩)
      have hE : ((E : Int) == E) = true := by simp
      rcases hcase with h1 | ⟨h1, h2, h3⟩ | ⟨h1, h2, h3⟩
      · rw [h1] at KMy
        clear h hl hg hgp hsm hN h1 hg0 hNl
        go_enter Try.func4, Try.ntmps4
        go_wp2_with fail; refine (rsAlive_any _).mono ?_; rintro e w1 ⟨rfl, hB1⟩
        replace hB1 := Lib.hid hB1
        go_wp2_with fail; refine (KG.out _ hB1.out).mono ?_; rintro e w' ⟨rfl, rfl⟩
        go_wp2_with fail; refine (KMy.out _).mono ?_; rintro e w' ⟨rfl, rfl⟩
        go_wp2_with fail; refine (HP.out _ hB1.out).mono ?_; rintro e w3 ⟨A1, c1, rfl, hl1, hB3⟩
        have hB3' := Lib.hid (below_then hB1.out hB3)
        replace hl1 := Lib.hid hl1
        clear hB3
        go_wp2_with fail; refine (HR.out _ hB3'.out).mono ?_; rintro e w4 ⟨A2, c2, rfl, hl2, hB4⟩
        have KS := Lib.hid (T2.out w4 A1 A2 c1 c2 (hl1.out.below hB4).rows8 hl2.rows8)
        have hB4' := Lib.hid (below_then hB3'.out hB4)
        clear hB4 hl1 hl2 HP HR T2
        go_wp2_with fail; refine KS.out.mono ?_; rintro e w5 ⟨rfl, hD⟩
        have hB5 := Lib.hid (below_then hB4'.out (hD.below _))
        clear hD KS
        go_wp2_with fail
        go_ret
        exact ⟨rfl, hB5.out⟩
      · rw [h1] at KMy
        obtain ⟨s, hs⟩ : ∃ s : Nat, k + m = (s : Int) := ⟨(k + m).toNat, by omega⟩
        have hwr : IntKind.i64.wrap (k + m) = (s : Int) := by rw [hs, IntKind.wrap_i64]; omega
        have hwr2 : wrap64 (k + m) = (s : Int) := by rw [hs]; exact IntWalk.wrap64_in _ ⟨by omega, by omega⟩
        have hs20 : ¬ ((20 : Int) < (s : Int)) := by omega
        clear h hl hg hgp hsm hN h1 hg0 hNl h2 h3 hs
        go_enter Try.func4, Try.ntmps4
        go_wp2_with fail; refine (rsAlive_any _).mono ?_; rintro e w1 ⟨rfl, hB1⟩
        replace hB1 := Lib.hid hB1
        go_wp2_with fail; refine (KG.out _ hB1.out).mono ?_; rintro e w' ⟨rfl, rfl⟩
        go_wp2_with fail; refine (KMy.out _).mono ?_; rintro e w' ⟨rfl, rfl⟩
        go_wp2_with fail; refine (HP.out _ hB1.out).mono ?_; rintro e w3 ⟨A1, c1, rfl, hl1, hB3⟩
        have hB3' := Lib.hid (below_then hB1.out hB3)
        replace hl1 := Lib.hid hl1
        clear hB3
        go_wp2_with fail; refine (HR.out _ hB3'.out).mono ?_; rintro e w4 ⟨A2, c2, rfl, hl2, hB4⟩
        have KS := Lib.hid (T2.out w4 A1 A2 c1 c2 (hl1.out.below hB4).rows8 hl2.rows8)
        have hB4' := Lib.hid (below_then hB3'.out hB4)
        clear hB4 hl1 hl2 HP HR T2
        go_wp2_with fail; refine KS.out.mono ?_; rintro e w5 ⟨rfl, hD⟩
        have hB5 := Lib.hid (below_then hB4'.out (hD.below _))
        clear hD KS
        go_wp2_with fail
        go_ret
        exact ⟨rfl, hB5.out⟩
      · rw [h1] at KMy
        obtain ⟨s, hs⟩ : ∃ s : Nat, k + m = (s : Int) := ⟨(k + m).toNat, by omega⟩
        have hwr : IntKind.i64.wrap (k + m) = (s : Int) := by rw [hs, IntKind.wrap_i64]; omega
        have hwr2 : wrap64 (k + m) = (s : Int) := by rw [hs]; exact IntWalk.wrap64_in _ ⟨by omega, by omega⟩
        have hs20 : (20 : Int) < (s : Int) := by omega
        clear h hl hg hgp hsm hN h1 hg0 hNl h2 h3 hs
        go_enter Try.func4, Try.ntmps4
        go_wp2_with fail; refine (rsAlive_any _).mono ?_; rintro e w1 ⟨rfl, hB1⟩
        replace hB1 := Lib.hid hB1
        go_wp2_with fail; refine (KG.out _ hB1.out).mono ?_; rintro e w' ⟨rfl, rfl⟩
        go_wp2_with fail; refine (KMy.out _).mono ?_; rintro e w' ⟨rfl, rfl⟩
        go_wp2_with fail
        go_ret
        exact ⟨rfl, hB1.out⟩
    · have hng' : (300 : Int) < (ng : Int) := by omega
      clear h hl hg hgp hsm KMy hg0
      go_enter Try.func4, Try.ntmps4
      go_wp2_with fail; refine (rsAlive_any _).mono ?_; rintro e w1 ⟨rfl, hB1⟩
      replace hB1 := Lib.hid hB1
      go_wp2_with fail; refine (KG.out _ hB1.out).mono ?_; rintro e w' ⟨rfl, rfl⟩
      go_wp2_with fail
      go_ret
      exact ⟨rfl, hB1.out⟩
end Go.Proofs.Ytjbedcgacnnanaa
