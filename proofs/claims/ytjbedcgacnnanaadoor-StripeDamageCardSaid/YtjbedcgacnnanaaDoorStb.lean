/-
  Size of bytes laid out, the program's and the document's, walked.
-/
import Derived.Test.YtjbedcgacnnanaaDoorSta
namespace Go.Proofs.YtjbedcgacnnanaaDoor
set_option linter.unusedSimpArgs false
set_option linter.unusedVariables false
open Go.RowKit

/-- two numbers are handed back -/
def NumErr (w : World) (v : Nat) (er : Int) (e : Ending) (w' : World) : Prop := e = .returned (.tuple #[.int .i64 (v : Int), .int .i64 er]) ∧ Below w.heap.size w w'
set_option maxRecDepth 100000 in
set_option maxHeartbeats 4000000 in
theorem size_any (k m ch n : Int) (w : World) : Calls Tryd.prog 10 #[.int .i64 k, .int .i64 m, .int .i64 ch, .int .i64 n] w (NumErr w (Stp.sizeV k m ch n) (Stp.sizeE k m ch n)) := by
  have hB := Lib.hid (box_below w (.int .i64 k) (.int .i64 m) (.int .i64 ch))
  have hb := Blk.new w 50 #[.int .i64 k, .int .i64 m, .int .i64 ch]
  have KM := Lib.hid (fun W => shapeMay_any k m ch n W)
  cases hok : Stp.ok k m ch n with
  | false =>
    rw [(Stp.sizeE_no hok).1, (Stp.sizeE_no hok).2]
    rw [hok] at KM
    have hc := And.intro (hb.cell 0) (And.intro (hb.cell 1) (hb.cell 2))
    clear hb hok
    go_enter Tryd.func10, Tryd.ntmps10
    go_wp2_with fail
    generalize w.alloc (.cells #[.int .i64 k, .int .i64 m, .int .i64 ch] 50) = w1 at *
    refine (KM.out _).mono ?_; rintro e w2 ⟨rfl, hB2⟩
    have HB2 := Lib.hid (below_then hB.out hB2)
    clear hc hB2
    go_wp2_with fail
    go_ret2
    exact ⟨rfl, HB2.out⟩
  | true =>
    rw [hok] at KM
    obtain ⟨a, b, c, d, rfl, rfl, rfl, rfl, h1, h2, h3, h4, h5⟩ := Stp.ok_nat hok
    have KN := Lib.hid (fun W => stripes_any a b c d W (by omega) h4 h1 h3 h5)
    have KL := Lib.hid (fun W => laid_any a b c W h2 h4)
    have hn8 : Stp.num (a * c) d ≤ 8388608 := Nat.le_trans (Stp.num_le (Stp.data_pos h1 h3)) h5
    have hl8 := Stp.laid_le h2 h4
    have hsz := Stp.size_le hn8 hl8
    have hcase : (Stp.size a b c d ≤ 16777216 ∧ Stp.sizeE a b c d = 0 ∧ Stp.sizeV a b c d = Stp.size a b c d) ∨ (16777216 < Stp.size a b c d ∧ Stp.sizeE a b c d = 6 ∧ Stp.sizeV a b c d = 0) := by
      by_cases h : Stp.size a b c d ≤ 16777216
      · exact .inl ⟨h, Stp.sizeE_in hok h⟩
      · exact .inr ⟨by omega, Stp.sizeE_big hok (by omega)⟩
    have hmul : ((Stp.num (a * c) d : Nat) : Int) * (((a + b) * (c + 4) : Nat) : Int) = ((Stp.size a b c d : Nat) : Int) := (Int.natCast_mul _ _).symm
    have hsz2 : Stp.size a b c d ≤ 8770289664000 := hsz
    have hwr : IntKind.i64.wrap ((Stp.size a b c d : Nat) : Int) = ((Stp.size a b c d : Nat) : Int) := by rw [IntKind.wrap_i64]; omega
    clear hsz
    generalize Stp.num (a * c) d = s at *
    generalize (a + b) * (c + 4) = l at *
    generalize Stp.size a b c d = z at *
    have hmw : IntKind.i64.wrap ((s : Int) * (l : Int)) = (z : Int) := by rw [hmul]; exact hwr
    clear hok
    have SB : Hid (∀ W, Below (w.alloc (.cells #[.int .i64 a, .int .i64 b, .int .i64 c] 50)).heap.size (w.alloc (.cells #[.int .i64 a, .int .i64 b, .int .i64 c] 50)) W → W.cell? ⟨w.heap.size, 0, none⟩ = some (.int .i64 a) ∧ W.cell? ⟨w.heap.size, 1, none⟩ = some (.int .i64 b) ∧ W.cell? ⟨w.heap.size, 2, none⟩ = some (.int .i64 c)) := fun W hW => ⟨(hb.below hW hb.lt).cell 0, (hb.below hW hb.lt).cell 1, (hb.below hW hb.lt).cell 2⟩
    have hc := SB.out _ (Below.refl _ _)
    clear hb
    rcases hcase with ⟨hz, e1, e2⟩ | ⟨hz, e1, e2⟩
    all_goals
      rw [e1, e2]
      clear e1 e2
      have hz' : (z : Int) ≤ 16777216 ∨ (16777216 : Int) < (z : Int) := by omega
      go_enter Tryd.func10, Tryd.ntmps10
      go_wp2_with fail
      generalize w.alloc (.cells #[.int .i64 a, .int .i64 b, .int .i64 c] 50) = w1 at *
      refine (KM.out _).mono ?_; rintro e w2 ⟨rfl, hB2⟩
      replace hB2 := Lib.hid hB2
      have hc2 := SB.out w2 hB2.out
      go_wp2_with fail
      refine region_E 7 (fun W => W.cell? ⟨w.heap.size, 0, none⟩ = some (.int .i64 a) ∧ W.cell? ⟨w.heap.size, 1, none⟩ = some (.int .i64 b) ∧ W.cell? ⟨w.heap.size, 2, none⟩ = some (.int .i64 c)) (by kernel_rfl) (SB.out _ hB2.out.drew) (fun hHeld => ?_)
      refine took 0 (v := ?_) rfl (by kernel_rfl) (by kernel_rfl) (by kernel_rfl) (by kernel_rfl) (fun _ _ _ h => h) (by rfl) (by assumption) ?_ ?_
      rotate_left
      · (intro W hSw; (try dsimp only at hSw); go_simp; first | done | with_reducible rfl)
      try simp only [Act.put, List.setIfInBounds_toArray, List.set_cons_zero, List.set_cons_succ]
      refine took 1 (v := ?_) rfl (by kernel_rfl) (by kernel_rfl) (by kernel_rfl) (by kernel_rfl) (fun _ _ _ h => h) (by rfl) (by assumption) ?_ ?_
      rotate_left
      · (intro W hSw; (try dsimp only at hSw); go_simp; first | done | with_reducible rfl)
      try simp only [Act.put, List.setIfInBounds_toArray, List.set_cons_zero, List.set_cons_succ]
      refine took 3 (v := ?_) rfl (by kernel_rfl) (by kernel_rfl) (by kernel_rfl) (by kernel_rfl) (fun _ _ _ h => h) (by rfl) (by assumption) ?_ ?_
      rotate_left
      · (intro W hSw; (try dsimp only at hSw); go_simp; first | done | with_reducible rfl)
      try simp only [Act.put, List.setIfInBounds_toArray, List.set_cons_zero, List.set_cons_succ]
      refine carried 2 rfl (by kernel_rfl) (by rfl) (fun K hK => ?_)
      go_simp
      (go_at_call 22; ((with_reducible refine (KN.out _).mono ?_); rintro e w3 ⟨rfl, hB3⟩); have HB3 := Lib.hid (below_then hB2.out.drew hB3); clear hB3)
      refine hK.out _ _ ((SB.out _ HB3.out)) (fun hHeld => ?_)
      clear hK K
      try simp only [Act.put, List.setIfInBounds_toArray, List.set_cons_zero, List.set_cons_succ]
      refine carried 4 rfl (by kernel_rfl) (by rfl) (fun K hK => ?_)
      go_simp
      (go_at_call 23; ((with_reducible refine (KL.out _).mono ?_); rintro e w4 ⟨rfl, hB4⟩); have HB4 := Lib.hid (below_then HB3.out hB4); clear hB4)
      refine hK.out _ _ ((SB.out _ HB4.out)) (fun hHeld => ?_)
      clear hK K
      try simp only [Act.put, List.setIfInBounds_toArray, List.set_cons_zero, List.set_cons_succ]
      refine took 5 (v := ?_) rfl (by kernel_rfl) (by kernel_rfl) (by kernel_rfl) (by kernel_rfl) (fun _ _ _ h => h) (by rfl) (by assumption) ?_ ?_
      rotate_left
      · (intro W hSw; (try dsimp only at hSw); go_simp; first | done | with_reducible rfl)
      try simp only [Act.put, List.setIfInBounds_toArray, List.set_cons_zero, List.set_cons_succ]
      refine took 6 (v := ?_) rfl (by kernel_rfl) (by kernel_rfl) (by kernel_rfl) (by kernel_rfl) (fun _ _ _ h => h) (by rfl) (by assumption) ?_ ?_
      rotate_left
      · (intro W hSw; (try dsimp only at hSw); go_simp; first | done | with_reducible rfl)
      try simp only [Act.put, List.setIfInBounds_toArray, List.set_cons_zero, List.set_cons_succ]
      refine allDone (by kernel_rfl) ?_ _
      have HB5 := Lib.hid (below_then hB.out HB4.out)
      clear hHeld hc hc2 SB hmw hwr
      rcases hz' with hz' | hz'
      all_goals
        first
          | (exfalso; omega)
          | (go_wp2_with fail
             go_ret2
             exact ⟨rfl, HB5.out⟩)

set_option maxRecDepth 100000 in
set_option maxHeartbeats 4000000 in
theorem refSize_any (k m ch n : Int) (w : World) : Calls Tryd.prog 11 #[.int .i64 k, .int .i64 m, .int .i64 ch, .int .i64 n] w fun e w' => e = .returned (.tuple #[.int .i64 (Stp.sizeV k m ch n : Nat), .int .i64 (Stp.sizeE k m ch n)]) ∧ w = w' := by
  have KM := Lib.hid (fun W => rsRefMay_any k m W)
  cases hok : Stp.ok k m ch n with
  | false =>
    rw [(Stp.sizeE_no hok).1, (Stp.sizeE_no hok).2]
    have hcase : Rsp.may k m = false ∨ (Rsp.may k m = true ∧ ch < 1) ∨ (Rsp.may k m = true ∧ 1 ≤ ch ∧ 4096 < ch) ∨ (Rsp.may k m = true ∧ 1 ≤ ch ∧ ch ≤ 4096 ∧ n < 0) ∨ (Rsp.may k m = true ∧ 1 ≤ ch ∧ ch ≤ 4096 ∧ 0 ≤ n ∧ 8388608 < n) := by
      cases hm : Rsp.may k m with
      | false => exact .inl rfl
      | true =>
        unfold Stp.ok at hok
        rw [hm, Bool.true_and] at hok
        by_cases h1 : 1 ≤ ch
        · by_cases h2 : ch ≤ 4096
          · by_cases h3 : 0 ≤ n
            · by_cases h4 : n ≤ 8388608
              · rw [decide_eq_true h1, decide_eq_true h2, decide_eq_true h3, decide_eq_true h4] at hok
                cases hok
              · exact .inr (.inr (.inr (.inr ⟨rfl, h1, h2, h3, by omega⟩)))
            · exact .inr (.inr (.inr (.inl ⟨rfl, h1, h2, by omega⟩)))
          · exact .inr (.inr (.inl ⟨rfl, h1, by omega⟩))
        · exact .inr (.inl ⟨rfl, by omega⟩)
    clear hok
    rcases hcase with h1 | ⟨h1, h2⟩ | ⟨h1, h2, h3⟩ | ⟨h1, h2, h3, h4⟩ | ⟨h1, h2, h3, h4, h5⟩
    all_goals
      rw [h1] at KM
      clear h1
      go_enter Tryd.func11, Tryd.ntmps11
      go_wp2_with fail
      refine (KM.out _).mono ?_; rintro e w' ⟨rfl, rfl⟩
      go_wp2_with fail
      go_ret2
      exact ⟨rfl, rfl⟩
  | true =>
    have hm : Rsp.may k m = true := by unfold Stp.ok at hok; rw [Bool.and_eq_true] at hok; exact hok.1
    rw [hm] at KM
    obtain ⟨a, b, c, d, rfl, rfl, rfl, rfl, h1, h2, h3, h4, h5⟩ := Stp.ok_nat hok
    have hpos := Stp.data_pos h1 h3
    have hle := Stp.data_le (a := a) (c := c) (by omega) h4
    have hn8 : Stp.num (a * c) d ≤ 8388608 := Nat.le_trans (Stp.num_le hpos) h5
    have hnum := Stp.num_ref (n := d) hpos
    have hl8 := Stp.laid_le h2 h4
    have hsz : Stp.size a b c d ≤ 8770289664000 := Stp.size_le hn8 hl8
    have hcase : (Stp.size a b c d ≤ 16777216 ∧ Stp.sizeE a b c d = 0 ∧ Stp.sizeV a b c d = Stp.size a b c d) ∨ (16777216 < Stp.size a b c d ∧ Stp.sizeE a b c d = 6 ∧ Stp.sizeV a b c d = 0) := by
      by_cases h : Stp.size a b c d ≤ 16777216
      · exact .inl ⟨h, Stp.sizeE_in hok h⟩
      · exact .inr ⟨by omega, Stp.sizeE_big hok (by omega)⟩
    have hm1 : (a : Int) * (c : Int) = ((a * c : Nat) : Int) := (Int.natCast_mul _ _).symm
    obtain ⟨q, hq⟩ : ∃ q, q = d / (a * c) := ⟨_, rfl⟩
    have hdiv : (d : Int) / ((a * c : Nat) : Int) = (q : Int) := by rw [hq]; exact (Int.natCast_ediv _ _).symm
    have hqd : q * (a * c) ≤ d := by rw [hq]; exact Nat.div_mul_le_self _ _
    have hq1 : q ≤ d := by rw [hq]; exact Nat.div_le_self _ _
    have hqa : q * a ≤ d := Nat.le_trans (Nat.mul_le_mul_left _ (Nat.le_mul_of_pos_right a (by omega))) hqd
    have hm2 : (q : Int) * (a : Int) = ((q * a : Nat) : Int) := (Int.natCast_mul _ _).symm
    have hm3 : ((q * a : Nat) : Int) * (c : Int) = ((q * (a * c) : Nat) : Int) := by rw [← Int.natCast_mul, Nat.mul_assoc]
    rw [← hq] at hnum
    have hs1 : (a : Int) + (b : Int) = ((a + b : Nat) : Int) := by omega
    have hs2 : (c : Int) + 4 = ((c + 4 : Nat) : Int) := by omega
    have hst : Stp.size a b c d = Stp.num (a * c) d * (a + b) * (c + 4) := by unfold Stp.size; rw [Nat.mul_assoc]
    have hm4 : ((Stp.num (a * c) d : Nat) : Int) * ((a + b : Nat) : Int) = ((Stp.num (a * c) d * (a + b) : Nat) : Int) := (Int.natCast_mul _ _).symm
    have hm5 : ((Stp.num (a * c) d * (a + b) : Nat) : Int) * ((c + 4 : Nat) : Int) = ((Stp.size a b c d : Nat) : Int) := by rw [hst]; exact (Int.natCast_mul _ _).symm
    have hx4 : Stp.num (a * c) d * (a + b) ≤ 2139095040 := by have := Stp.prod_le hn8 h2; omega
    clear hst hok hm
    generalize Stp.size a b c d = z at *
    generalize Stp.num (a * c) d = s at *
    generalize s * (a + b) = sab at *
    generalize q * (a * c) = qd at *
    generalize a * c = dd at *
    generalize q * a = qa at *
    generalize c + 4 = c4 at *
    generalize a + b = ab at *
    replace hq := Lib.hid hq
    have hd0 : ((dd : Int) == 0) = false := by simp; omega
    have hd1 : ¬ (dd : Int) = 0 := by omega
    have hcs : (qd < d ∧ s = q + 1) ∨ (d ≤ qd ∧ s = q) := by
      by_cases h : qd < d
      · rw [if_pos h] at hnum; exact .inl ⟨h, hnum⟩
      · rw [if_neg h] at hnum; exact .inr ⟨by omega, hnum⟩
    clear hnum
    rcases hcs with ⟨hc1, hs⟩ | ⟨hc1, hs⟩
    · have hsq1 : (q : Int) + 1 = (s : Int) := by omega
      replace hs := Lib.hid hs
      rcases hcase with ⟨hz, e1, e2⟩ | ⟨hz, e1, e2⟩
      all_goals
        rw [e1, e2]
        clear e1 e2
        have hc1' : (qd : Int) < (d : Int) ∨ (d : Int) ≤ (qd : Int) := by omega
        have hz' : (z : Int) ≤ 16777216 ∨ (16777216 : Int) < (z : Int) := by omega
        rcases hc1' with hc1' | hc1'
        all_goals
          rcases hz' with hz' | hz'
          all_goals
            first
              | (exfalso; omega)
              | (skip
                 go_enter Tryd.func11, Tryd.ntmps11
                 go_wp2_with fail
                 refine (KM.out _).mono ?_; rintro e w' ⟨rfl, rfl⟩
                 go_wp2_with fail
                 go_ret2
                 exact ⟨rfl, rfl⟩)
    · subst hs
      rcases hcase with ⟨hz, e1, e2⟩ | ⟨hz, e1, e2⟩
      all_goals
        rw [e1, e2]
        clear e1 e2
        have hc1' : (qd : Int) < (d : Int) ∨ (d : Int) ≤ (qd : Int) := by omega
        have hz' : (z : Int) ≤ 16777216 ∨ (16777216 : Int) < (z : Int) := by omega
        rcases hc1' with hc1' | hc1'
        all_goals
          rcases hz' with hz' | hz'
          all_goals
            first
              | (exfalso; omega)
              | (skip
                 go_enter Tryd.func11, Tryd.ntmps11
                 go_wp2_with fail
                 refine (KM.out _).mono ?_; rintro e w' ⟨rfl, rfl⟩
                 go_wp2_with fail
                 go_ret2
                 exact ⟨rfl, rfl⟩)
end Go.Proofs.YtjbedcgacnnanaaDoor
