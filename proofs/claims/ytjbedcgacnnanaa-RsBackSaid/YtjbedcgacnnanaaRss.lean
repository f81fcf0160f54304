/-
  The laws RsParity, RsMends, RsRight, walked.
-/
import Derived.Test.YtjbedcgacnnanaaRsr
namespace Go.Proofs.Ytjbedcgacnnanaa
set_option linter.unusedSimpArgs false
set_option linter.unusedVariables false
open Go.RowKit

theorem small_of_great {l : List (List UInt8)} (h : Rsp.great l = false) : ∀ x ∈ l, x.length ≤ 1000000 := fun x hx => Nat.le_trans ((Rsp.great_parts h).2 x hx) (by omega)
set_option maxRecDepth 100000 in
set_option maxHeartbeats 4000000 in
theorem rsParity_walk (m : Int) (A : Option Addr) (n c : Nat) (xss : List (List UInt8)) (w : World) (_hm : (Lit.int .i64 m).wf = true) (_l : n ≤ c) (_m : c ≤ maxLen) (h : Rows8 w w.heap.size A n xss) :
    Calls Try.prog 3 #[.int .i64 m, .slice A n c] w fun e w' => e = .returned (.bool true) ∧ Below w.heap.size w w' := by
  have hl := h.len
  have H := Lib.hid (fun W (hW : Below w.heap.size w W) => (h.below hW).more hW.size)
  have KG : Hid (∀ W, Below w.heap.size w W → Calls Try.prog 10 #[.slice A n c] W fun e w' => e = .returned (.bool (Rsp.great xss)) ∧ W = w') := fun W hW => greatL_any A n c _ xss W (H.out W hW)
  have KMy : Hid (∀ W, Calls Try.prog 11 #[.int .i64 n, .int .i64 m] W fun e w' => e = .returned (.bool (Rsp.may n m)) ∧ W = w') := fun W => rsRefMay_any _ _ W
  cases hg : Rsp.great xss with
  | true =>
    rw [hg] at KG
    clear h hl hg KMy
    go_enter Try.func3, Try.ntmps3
    go_wp2_with fail; refine (rsAlive_any _).mono ?_; rintro e w1 ⟨rfl, hB1⟩
    replace hB1 := Lib.hid hB1
    go_wp2_with fail; refine (KG.out _ hB1.out).mono ?_; rintro e w' ⟨rfl, rfl⟩
    go_wp2_with fail
    go_ret
    exact ⟨rfl, hB1.out⟩
  | false =>
    rw [hg] at KG
    have hgp := Rsp.great_parts hg
    have hn : n ≤ 16 := by omega
    have hsm := small_of_great hg
    have HP : Hid (∀ W, Below w.heap.size w W → Calls Try.prog 12 #[.int .i64 m, .slice A n c] W (LsErr W (Rsp.parV m xss).length (Rsp.parV m xss) (Rsp.parE m xss))) := fun W hW => parity_any m A n c xss W (H.out W hW) (by omega) hsm
    have HR : Hid (∀ W, Below w.heap.size w W → Calls Try.prog 13 #[.int .i64 m, .slice A n c] W (LsErr W (Rsp.parV m xss).length (Rsp.parV m xss) (Rsp.parE m xss))) := fun W hW => refParity_any m A n c xss W (H.out W hW) (by omega) hsm
    have hpl : Rsp.may n m = false ∨ m ≤ 20 → (Rsp.parV m xss).length ≤ 20 := fun hor => by
      by_cases hok : Rsp.parOk m xss = true
      · rw [Rsp.parV_yes hok, Rsp.timesP_len]
        have h1 : Rsp.may xss.length m = true := by unfold Rsp.parOk at hok; rw [Bool.and_eq_true] at hok; exact hok.1
        rw [hl] at h1
        rcases hor with h2 | h2
        · rw [h1] at h2; cases h2
        · omega
      · rw [Rsp.parV_no (by simpa using hok)]; simp
    unfold LsErr at HP HR
    generalize Rsp.parV m xss = V at *
    generalize Rsp.parE m xss = E at *
    generalize hN : V.length = N at *
    have TAIL : Hid (N ≤ 20 → ∀ (W : World) (A1 A2 : Option Addr) (c1 c2 : Nat), Rows8 W W.heap.size A1 N V → Rows8 W W.heap.size A2 N V → Calls Try.prog 14 #[.slice A1 N c1, .slice A2 N c2] W fun e w' => e = .returned (.bool true) ∧ Dr W w') := fun hN W A1 A2 c1 c2 h1 h2 => by
      have h := sameL_any A1 A2 N N c1 c2 _ _ V V W h1 h2 (by omega)
      rwa [decide_eq_true rfl] at h
    have hE : ((E : Int) == E) = true := by simp
    cases hmy : Rsp.may n m with
    | false =>
      rw [hmy] at KMy
      have T2 := Lib.hid (TAIL.out (hpl (.inl hmy)))
      clear h hl hg hgp hsm hpl hN TAIL hmy
      go_enter Try.func3, Try.ntmps3
      go_wp2_with fail; refine (rsAlive_any _).mono ?_; rintro e w1 ⟨rfl, hB1⟩
      replace hB1 := Lib.hid hB1
      go_wp2_with fail; refine (KG.out _ hB1.out).mono ?_; rintro e w' ⟨rfl, rfl⟩
      go_wp2_with fail; refine (KMy.out _).mono ?_; rintro e w' ⟨rfl, rfl⟩
      go_wp2_with fail; refine (HP.out _ hB1.out).mono ?_; rintro e w3 ⟨A1, c1, rfl, hl1, hB3⟩
      have hB3' := Lib.hid (below_then hB1.out hB3)
      replace hl1 := Lib.hid hl1
      clear hB3
      go_wp2_with fail; refine (HR.out _ hB3'.out).mono ?_; rintro e w4 ⟨A2, c2, rfl, hl2, hB4⟩
      have KS := Lib.hid (T2.out w4 A1 A2 c1 c2 (hl1.out.below hB4).rows8 hl2.rows8)
      have hB4' := Lib.hid (below_then hB3'.out hB4)
      clear hB4 hl1 hl2 HP HR T2
      go_wp2_with fail; refine KS.out.mono ?_; rintro e w5 ⟨rfl, hD⟩
      have hB5 := Lib.hid (below_then hB4'.out (hD.below _))
      clear hD KS
      go_wp2_with fail
      go_ret
      exact ⟨rfl, hB5.out⟩
    | true =>
      rw [hmy] at KMy
      by_cases hm20 : m ≤ 20
      · have T2 := Lib.hid (TAIL.out (hpl (.inr hm20)))
        have hm' : ¬ (20 < m) := by omega
        clear h hl hg hgp hsm hpl hN TAIL hmy
        go_enter Try.func3, Try.ntmps3
        go_wp2_with fail; refine (rsAlive_any _).mono ?_; rintro e w1 ⟨rfl, hB1⟩
        replace hB1 := Lib.hid hB1
        go_wp2_with fail; refine (KG.out _ hB1.out).mono ?_; rintro e w' ⟨rfl, rfl⟩
        go_wp2_with fail; refine (KMy.out _).mono ?_; rintro e w' ⟨rfl, rfl⟩
        go_wp2_with fail; refine (HP.out _ hB1.out).mono ?_; rintro e w3 ⟨A1, c1, rfl, hl1, hB3⟩
        have hB3' := Lib.hid (below_then hB1.out hB3)
        replace hl1 := Lib.hid hl1
        clear hB3
        go_wp2_with fail; refine (HR.out _ hB3'.out).mono ?_; rintro e w4 ⟨A2, c2, rfl, hl2, hB4⟩
        have KS := Lib.hid (T2.out w4 A1 A2 c1 c2 (hl1.out.below hB4).rows8 hl2.rows8)
        have hB4' := Lib.hid (below_then hB3'.out hB4)
        clear hB4 hl1 hl2 HP HR T2
        go_wp2_with fail; refine KS.out.mono ?_; rintro e w5 ⟨rfl, hD⟩
        have hB5 := Lib.hid (below_then hB4'.out (hD.below _))
        clear hD KS
        go_wp2_with fail
        go_ret
        exact ⟨rfl, hB5.out⟩
      · have hm' : 20 < m := by omega
        clear h hl hg hgp hsm hpl hN TAIL hmy
        go_enter Try.func3, Try.ntmps3
        go_wp2_with fail; refine (rsAlive_any _).mono ?_; rintro e w1 ⟨rfl, hB1⟩
        replace hB1 := Lib.hid hB1
        go_wp2_with fail; refine (KG.out _ hB1.out).mono ?_; rintro e w' ⟨rfl, rfl⟩
        go_wp2_with fail; refine (KMy.out _).mono ?_; rintro e w' ⟨rfl, rfl⟩
        go_wp2_with fail
        go_ret
        exact ⟨rfl, hB1.out⟩

set_option maxRecDepth 100000 in
set_option maxHeartbeats 4000000 in
theorem rsRight_walk (k m : Int) (A : Option Addr) (n c : Nat) (xss : List (List UInt8)) (w : World) (_hk : (Lit.int .i64 k).wf = true) (_hm : (Lit.int .i64 m).wf = true) (hnc : n ≤ c) (hcm : c ≤ maxLen) (h : Rows8 w w.heap.size A n xss) :
    Calls Try.prog 8 #[.int .i64 k, .int .i64 m, .slice A n c] w fun e w' => e = .returned (.bool true) ∧ Below w.heap.size w w' := by
  have hl := h.len
  have H := Lib.hid (fun W (hW : Below w.heap.size w W) => (h.below hW).more hW.size)
  have KG : Hid (∀ W, Below w.heap.size w W → Calls Try.prog 10 #[.slice A n c] W fun e w' => e = .returned (.bool (Rsp.great xss)) ∧ W = w') := fun W hW => greatL_any A n c _ xss W (H.out W hW)
  cases hg : Rsp.great xss with
  | true =>
    rw [hg] at KG
    clear h hl hg hnc hcm
    go_enter Try.func8, Try.ntmps8
    go_wp2_with fail; refine (rsAlive_any _).mono ?_; rintro e w1 ⟨rfl, hB1⟩
    replace hB1 := Lib.hid hB1
    go_wp2_with fail; refine (KG.out _ hB1.out).mono ?_; rintro e w' ⟨rfl, rfl⟩
    go_wp2_with fail
    go_ret
    exact ⟨rfl, hB1.out⟩
  | false =>
    rw [hg] at KG
    have hgp := Rsp.great_parts hg
    have hn : n ≤ 16 := by omega
    have hsm := small_of_great hg
    have HP : Hid (∀ W, Below w.heap.size w W → Calls Try.prog 19 #[.int .i64 k, .int .i64 m, .slice A n c] W fun e w' => e = .returned (.bool (Rsp.rightV k m xss)) ∧ Below W.heap.size W w') := fun W hW => right_any k m A n c xss W (H.out W hW) hnc hcm (by omega) hsm
    have HR : Hid (∀ W, Below w.heap.size w W → Calls Try.prog 20 #[.int .i64 k, .int .i64 m, .slice A n c] W fun e w' => e = .returned (.bool (Rsp.rightV k m xss)) ∧ Below W.heap.size W w') := fun W hW => refRight_any k m A n c xss W (H.out W hW) hnc hcm (by omega) hsm
    generalize Rsp.rightV k m xss = V at *
    clear h hl hg hgp hsm hnc hcm
    go_enter Try.func8, Try.ntmps8
    go_wp2_with fail; refine (rsAlive_any _).mono ?_; rintro e w1 ⟨rfl, hB1⟩
    replace hB1 := Lib.hid hB1
    go_wp2_with fail; refine (KG.out _ hB1.out).mono ?_; rintro e w' ⟨rfl, rfl⟩
    go_wp2_with fail; refine (HP.out _ hB1.out).mono ?_; rintro e w3 ⟨rfl, hB3⟩
    have hB3' := Lib.hid (below_then hB1.out hB3)
    clear hB3
    go_wp2_with fail; refine (HR.out _ hB3'.out).mono ?_; rintro e w4 ⟨rfl, hB4⟩
    have hB4' := Lib.hid (below_then hB3'.out hB4)
    clear hB4
    cases V
    all_goals
      go_wp2_with fail
      go_ret
      exact ⟨rfl, hB4'.out⟩
end Go.Proofs.Ytjbedcgacnnanaa
