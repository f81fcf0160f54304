/-
  Right, the program's and the document's, walked.
-/
import Derived.Test.YtjbedcgacnnanaaRso
namespace Go.Proofs.Ytjbedcgacnnanaa
set_option linter.unusedSimpArgs false
set_option linter.unusedVariables false
open Go.RowKit

namespace Rsp
/-- are these parts of one another? -/
def rightV (k m : Int) (l : List (List UInt8)) : Bool := may k m && (decide ((l.length : Int) = k + m) && (alike l && decide (parV m (l.take k.toNat) = l.drop k.toNat)))
theorem right_bad {k m : Int} {l : List (List UInt8)} (h : ¬ (may k m = true ∧ (l.length : Int) = k + m)) : rightV k m l = false := by
  unfold rightV
  by_cases h1 : may k m = true
  · have h2 : ¬ (l.length : Int) = k + m := fun h2 => h ⟨h1, h2⟩
    rw [decide_eq_false h2, Bool.false_and, Bool.and_false]
  · rw [Bool.eq_false_iff.2 h1, Bool.false_and]
theorem right_odd {k m : Int} {l : List (List UInt8)} (h : alike l = false) : rightV k m l = false := by
  unfold rightV
  rw [h, Bool.false_and, Bool.and_false, Bool.and_false]
theorem right_in {n p : Nat} {l : List (List UInt8)} (hm : may (n : Int) (p : Int) = true) (hl : l.length = n + p) (ha : alike l = true) : rightV n p l = decide (parV p (l.take n) = l.drop n) := by
  unfold rightV
  rw [hm, ha, decide_eq_true (by omega), Bool.true_and, Bool.true_and, Bool.true_and, Int.toNat_natCast]
end Rsp


set_option maxRecDepth 100000 in
set_option maxHeartbeats 4000000 in
theorem right_any (k m : Int) (A : Option Addr) (n c : Nat) (xss : List (List UInt8)) (w : World) (hx : Rows8 w w.heap.size A n xss) (hnc : n ≤ c) (hcm : c ≤ maxLen) (hn : n ≤ 100000) (hL : ∀ x ∈ xss, x.length ≤ 1000000) :
    Calls Try.prog 19 #[.int .i64 k, .int .i64 m, .slice A n c] w fun e w' => e = .returned (.bool (Rsp.rightV k m xss)) ∧ Below w.heap.size w w' := by
  have hl := hx.len
  cases hm : Rsp.may k m with
  | false =>
    rw [Rsp.right_bad (by rw [hm]; simp)]
    have KM : Hid (∀ W, Calls Try.prog 21 #[.int .i64 k, .int .i64 m] W fun e w' => e = .returned (.bool false) ∧ W = w') := fun W => by rw [← hm]; exact rsMay_any _ _ _
    clear hx hl hm hL hcm hnc
    go_enter Try.func19, Try.ntmps19
    go_wp2_with fail; refine (KM.out _).mono ?_; rintro e w' ⟨rfl, rfl⟩
    go_wp2_with fail
    go_ret
    exact ⟨rfl, Below.refl _ _⟩
  | true =>
    have KM : Hid (∀ W, Calls Try.prog 21 #[.int .i64 k, .int .i64 m] W fun e w' => e = .returned (.bool true) ∧ W = w') := fun W => by rw [← hm]; exact rsMay_any _ _ _
    obtain ⟨n0, p, rfl, rfl, h1, hq⟩ : ∃ n0 p : Nat, k = (n0 : Int) ∧ m = (p : Int) ∧ 1 ≤ n0 ∧ n0 + p ≤ 255 := by unfold Rsp.may at hm; simp at hm; exact ⟨k.toNat, m.toNat, by omega, by omega, by omega, by omega⟩
    obtain ⟨q, hnp⟩ : ∃ q, n0 + p = q := ⟨_, rfl⟩
    have esum : (n0 : Int) + (p : Int) = (q : Int) := by omega
    by_cases hnq : n = q
    · subst hnq
      cases ha : Rsp.alike xss with
      | false =>
        rw [Rsp.right_odd ha]
        have KA : Hid (Calls Try.prog 22 #[.slice A n c] w fun e w' => e = .returned (.bool false) ∧ Dr w w') := by rw [← ha]; exact alikeD_any A n c xss w hx hn
        clear hx hl ha hm hL hcm hnc
        replace hnp := Lib.hid hnp
        go_enter Try.func19, Try.ntmps19
        go_wp2_with fail; refine (KM.out _).mono ?_; rintro e w' ⟨rfl, rfl⟩
        go_wp2_with fail; refine KA.out.mono ?_; rintro e w1 ⟨rfl, hD⟩
        replace hD := Lib.hid hD
        go_wp2_with fail
        go_ret
        exact ⟨rfl, hD.out.below _⟩
      | true =>
        rw [Rsp.right_in hm (by omega) ha]
        have KA : Hid (Calls Try.prog 22 #[.slice A n c] w fun e w' => e = .returned (.bool true) ∧ Dr w w') := by rw [← ha]; exact alikeD_any A n c xss w hx hn
        obtain ⟨L, hLL⟩ : ∃ L, (xss.headD []).length = L := ⟨_, rfl⟩
        have hal : ∀ x ∈ xss, x.length = L := by rw [← hLL]; exact Rsp.alike_all ha
        have hLm : L ≤ 1000000 := by
          rw [← hLL]
          cases xss with
          | nil => simp
          | cons a t => exact hL a (List.mem_cons_self ..)
        have htl : (xss.take n0).length = n0 := by rw [List.length_take]; omega
        have htL : ∀ x ∈ xss.take n0, x.length = L := fun x hx => hal x (List.mem_of_mem_take hx)
        have hpar := Rsp.par_all hm h1 htl htL
        have hYl : (Rsp.parV p (xss.take n0)).length = p := by rw [hpar.2, Rsp.timesP_len]
        have hYL : ∀ x ∈ Rsp.parV p (xss.take n0), x.length = L := by rw [hpar.2]; exact Rsp.timesP_all _ _ _ _ _
        have KP : Hid (∀ (W : World), Below w.heap.size w W → Calls Try.prog 12 #[.int .i64 p, .slice A n0 c] W fun e w' => ∃ A c, e = .returned (.tuple #[.slice A p c, .int .i64 0]) ∧ Lists w' 0 W.heap.size A p c (Rsp.parV p (xss.take n0)) ∧ Below W.heap.size W w') := fun W hB => by
          have h := parity_any p A n0 c (xss.take n0) W (((hx.take (by omega)).below hB).more hB.size) (by omega) (fun x hx => by rw [htL x hx]; exact hLm)
          rw [hpar.1, hYl] at h
          exact h
        obtain ⟨q, hq'⟩ : ∃ q, q = n := ⟨_, rfl⟩
        rw [← hq'] at hnp hx hnc
        generalize Rsp.parV p (xss.take n0) = Y at *
        have KE : Hid (∀ (W : World) (A3 : Option Addr) (c3 : Nat), Below w.heap.size w W → Lists W 0 w.heap.size A3 p c3 Y → Calls Try.prog 37 #[.slice A3 p c3, .slice (cutA A c n0 1) p (c - n0), .func (.func 38) #[] #[]] W fun e w' => e = .returned (.bool (decide (Y = xss.drop n0))) ∧ Dr W w') := fun W A3 c3 hB hY => by
            have h2 := ((hx.cut (k := n0) (by omega) hnc).below hB)
            rw [show q - n0 = p by omega] at h2
            exact equalFunc_any A3 _ p p c3 (c - n0) _ _ Y (xss.drop n0) W hY.rows8 h2 (by omega) (fun x hx => by rw [hYL x hx]; exact hLm) (fun x hx => hL x (List.mem_of_mem_drop hx))
        obtain ⟨i0, hi, hz0, hz1, hz2⟩ := info_parts info_row8
        have hsl := run_cut_lo (P := Try.prog) 22 35 i0 1 Try.underlying22 hi hz1 A n c n0 .i64 (by omega)
        rw [show n - n0 = p by omega] at hsl
        replace hi := Lib.hid hi; replace hz0 := Lib.hid hz0; replace hz1 := Lib.hid hz1; replace hz2 := Lib.hid hz2
        have hn0c : (n0 : Int) ≤ (c : Int) := by omega
        have hn00 : (0 : Int) ≤ (n0 : Int) := by omega
        have hn0n : (n0 : Int) ≤ (n : Int) := by omega
        clear hx hl ha hm hL hnc hYl hYL hpar htl htL hLm hal hLL hnp hq'
        unfold maxLen at hcm
        generalize decide (Y = xss.drop n0) = bb at *
        go_enter Try.func19, Try.ntmps19
        go_wp2_with fail; refine (KM.out _).mono ?_; rintro e w' ⟨rfl, rfl⟩
        go_wp2_with fail; refine KA.out.mono ?_; rintro e w1 ⟨rfl, hD⟩
        have HB1 := Lib.hid (hD.below w.heap.size)
        clear hD KA
        go_wp2_with fail; refine (KP.out _ HB1.out).mono ?_; rintro e w2 ⟨A3, c3, rfl, hl3, hB3⟩
        have HB3 := Lib.hid (below_then HB1.out hB3)
        have KE1 := Lib.hid (KE.out w2 A3 c3 HB3.out (hl3.older (Nat.le_refl _) (Nat.zero_le _) HB1.out.size))
        clear hl3 hB3 KE KP HB1
        go_wp2_with fail; refine KE1.out.mono ?_; rintro e w3 ⟨rfl, hD⟩
        have HB4 := Lib.hid (below_then HB3.out (hD.below _))
        clear hD KE1
        go_wp2_with fail
        go_ret
        exact ⟨rfl, HB4.out⟩
    · rw [Rsp.right_bad (by rw [hl]; rintro ⟨_, h2⟩; omega)]
      have e1 : ((n : Int) == (q : Int)) = false := by simp; omega
      have e2 : ((n : Int) != (q : Int)) = true := by simp; omega
      clear hx hl hm hL hcm hnc
      replace hnp := Lib.hid hnp
      go_enter Try.func19, Try.ntmps19
      go_wp2_with fail; refine (KM.out _).mono ?_; rintro e w' ⟨rfl, rfl⟩
      go_wp2_with fail
      go_ret
      exact ⟨rfl, Below.refl _ _⟩

set_option maxRecDepth 100000 in
set_option maxHeartbeats 4000000 in
theorem refRight_any (k m : Int) (A : Option Addr) (n c : Nat) (xss : List (List UInt8)) (w : World) (hx : Rows8 w w.heap.size A n xss) (hnc : n ≤ c) (hcm : c ≤ maxLen) (hn : n ≤ 100000) (hL : ∀ x ∈ xss, x.length ≤ 1000000) :
    Calls Try.prog 20 #[.int .i64 k, .int .i64 m, .slice A n c] w fun e w' => e = .returned (.bool (Rsp.rightV k m xss)) ∧ Below w.heap.size w w' := by
  have hl := hx.len
  cases hm : Rsp.may k m with
  | false =>
    rw [Rsp.right_bad (by rw [hm]; simp)]
    have KM : Hid (∀ W, Calls Try.prog 11 #[.int .i64 k, .int .i64 m] W fun e w' => e = .returned (.bool false) ∧ W = w') := fun W => by rw [← hm]; exact rsRefMay_any _ _ _
    clear hx hl hm hL hcm hnc
    go_enter Try.func20, Try.ntmps20
    go_wp2_with fail; refine (KM.out _).mono ?_; rintro e w' ⟨rfl, rfl⟩
    go_wp2_with fail
    go_ret
    exact ⟨rfl, Below.refl _ _⟩
  | true =>
    have KM : Hid (∀ W, Calls Try.prog 11 #[.int .i64 k, .int .i64 m] W fun e w' => e = .returned (.bool true) ∧ W = w') := fun W => by rw [← hm]; exact rsRefMay_any _ _ _
    obtain ⟨n0, p, rfl, rfl, h1, hq⟩ : ∃ n0 p : Nat, k = (n0 : Int) ∧ m = (p : Int) ∧ 1 ≤ n0 ∧ n0 + p ≤ 255 := by unfold Rsp.may at hm; simp at hm; exact ⟨k.toNat, m.toNat, by omega, by omega, by omega, by omega⟩
    obtain ⟨q, hnp⟩ : ∃ q, n0 + p = q := ⟨_, rfl⟩
    have esum : (n0 : Int) + (p : Int) = (q : Int) := by omega
    by_cases hnq : n = q
    · subst hnq
      cases ha : Rsp.alike xss with
      | false =>
        rw [Rsp.right_odd ha]
        have KA : Hid (Calls Try.prog 17 #[.slice A n c] w fun e w' => e = .returned (.bool false) ∧ Dr w w') := by rw [← ha]; exact refAlikeD_any A n c xss w hx hn
        clear hx hl ha hm hL hcm hnc
        replace hnp := Lib.hid hnp
        go_enter Try.func20, Try.ntmps20
        go_wp2_with fail; refine (KM.out _).mono ?_; rintro e w' ⟨rfl, rfl⟩
        go_wp2_with fail; refine KA.out.mono ?_; rintro e w1 ⟨rfl, hD⟩
        replace hD := Lib.hid hD
        go_wp2_with fail
        go_ret
        exact ⟨rfl, hD.out.below _⟩
      | true =>
        rw [Rsp.right_in hm (by omega) ha]
        have KA : Hid (Calls Try.prog 17 #[.slice A n c] w fun e w' => e = .returned (.bool true) ∧ Dr w w') := by rw [← ha]; exact refAlikeD_any A n c xss w hx hn
        obtain ⟨L, hLL⟩ : ∃ L, (xss.headD []).length = L := ⟨_, rfl⟩
        have hal : ∀ x ∈ xss, x.length = L := by rw [← hLL]; exact Rsp.alike_all ha
        have hLm : L ≤ 1000000 := by
          rw [← hLL]
          cases xss with
          | nil => simp
          | cons a t => exact hL a (List.mem_cons_self ..)
        have htl : (xss.take n0).length = n0 := by rw [List.length_take]; omega
        have htL : ∀ x ∈ xss.take n0, x.length = L := fun x hx => hal x (List.mem_of_mem_take hx)
        have hpar := Rsp.par_all hm h1 htl htL
        have hYl : (Rsp.parV p (xss.take n0)).length = p := by rw [hpar.2, Rsp.timesP_len]
        have hYL : ∀ x ∈ Rsp.parV p (xss.take n0), x.length = L := by rw [hpar.2]; exact Rsp.timesP_all _ _ _ _ _
        have KP : Hid (∀ (W : World), Below w.heap.size w W → Calls Try.prog 13 #[.int .i64 p, .slice A n0 c] W fun e w' => ∃ A c, e = .returned (.tuple #[.slice A p c, .int .i64 0]) ∧ Lists w' 0 W.heap.size A p c (Rsp.parV p (xss.take n0)) ∧ Below W.heap.size W w') := fun W hB => by
          have h := refParity_any p A n0 c (xss.take n0) W (((hx.take (by omega)).below hB).more hB.size) (by omega) (fun x hx => by rw [htL x hx]; exact hLm)
          rw [hpar.1, hYl] at h
          exact h
        obtain ⟨q, hq'⟩ : ∃ q, q = n := ⟨_, rfl⟩
        rw [← hq'] at hnp hx hnc
        generalize Rsp.parV p (xss.take n0) = Y at *
        have KE : Hid (∀ (W : World) (A3 : Option Addr) (c3 : Nat), Below w.heap.size w W → Lists W 0 w.heap.size A3 p c3 Y → Calls Try.prog 14 #[.slice A3 p c3, .slice (cutA A c n0 1) p (c - n0)] W fun e w' => e = .returned (.bool (decide (Y = xss.drop n0))) ∧ Dr W w') := fun W A3 c3 hB hY => by
            have h2 := ((hx.cut (k := n0) (by omega) hnc).below hB)
            rw [show q - n0 = p by omega] at h2
            exact sameL_any A3 _ p p c3 (c - n0) _ _ Y (xss.drop n0) W hY.rows8 h2 (by omega)
        obtain ⟨i0, hi, hz0, hz1, hz2⟩ := info_parts info_row8
        have hsl := run_cut_lo (P := Try.prog) 22 35 i0 1 Try.underlying22 hi hz1 A n c n0 .i64 (by omega)
        rw [show n - n0 = p by omega] at hsl
        replace hi := Lib.hid hi; replace hz0 := Lib.hid hz0; replace hz1 := Lib.hid hz1; replace hz2 := Lib.hid hz2
        have hn0c : (n0 : Int) ≤ (c : Int) := by omega
        have hn00 : (0 : Int) ≤ (n0 : Int) := by omega
        have hn0n : (n0 : Int) ≤ (n : Int) := by omega
        clear hx hl ha hm hL hnc hYl hYL hpar htl htL hLm hal hLL hnp hq'
        unfold maxLen at hcm
        generalize decide (Y = xss.drop n0) = bb at *
        go_enter Try.func20, Try.ntmps20
        go_wp2_with fail; refine (KM.out _).mono ?_; rintro e w' ⟨rfl, rfl⟩
        go_wp2_with fail; refine KA.out.mono ?_; rintro e w1 ⟨rfl, hD⟩
        have HB1 := Lib.hid (hD.below w.heap.size)
        clear hD KA
        go_wp2_with fail; refine (KP.out _ HB1.out).mono ?_; rintro e w2 ⟨A3, c3, rfl, hl3, hB3⟩
        have HB3 := Lib.hid (below_then HB1.out hB3)
        have KE1 := Lib.hid (KE.out w2 A3 c3 HB3.out (hl3.older (Nat.le_refl _) (Nat.zero_le _) HB1.out.size))
        clear hl3 hB3 KE KP HB1
        go_wp2_with fail; refine KE1.out.mono ?_; rintro e w3 ⟨rfl, hD⟩
        have HB4 := Lib.hid (below_then HB3.out (hD.below _))
        clear hD KE1
        go_wp2_with fail
        go_ret
        exact ⟨rfl, HB4.out⟩
    · rw [Rsp.right_bad (by rw [hl]; rintro ⟨_, h2⟩; omega)]
      have e1 : ((n : Int) == (q : Int)) = false := by simp; omega
      have e2 : ((n : Int) != (q : Int)) = true := by simp; omega
      clear hx hl hm hL hcm hnc
      replace hnp := Lib.hid hnp
      go_enter Try.func20, Try.ntmps20
      go_wp2_with fail; refine (KM.out _).mono ?_; rintro e w' ⟨rfl, rfl⟩
      go_wp2_with fail
      go_ret
      exact ⟨rfl, Below.refl _ _⟩
end Go.Proofs.Ytjbedcgacnnanaa
