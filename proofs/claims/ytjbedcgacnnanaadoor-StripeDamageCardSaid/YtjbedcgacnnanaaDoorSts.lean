/-
  The law StripeReads, walked.
-/
import Derived.Test.YtjbedcgacnnanaaDoorBsr
import Derived.Test.YtjbedcgacnnanaaDoorStj
namespace Go.Proofs.YtjbedcgacnnanaaDoor
set_option linter.unusedSimpArgs false
set_option linter.unusedVariables false
open Go.RowKit

set_option maxRecDepth 100000 in
set_option maxHeartbeats 1000000 in
/-- numbers that are the same -/
theorem sameN_any (A A' : Option Addr) (n c c' B B' : Nat) (xs : List Nat) (w : World) (h : Reads w B 1 A n (xs.map NV)) (h' : Reads w B' 1 A' n (xs.map NV)) (hn : n < 4294967296) :
    Calls Tryd.prog 17 #[.slice A n c, .slice A' n c'] w fun e w' => e = .returned (.bool true) ∧ Dr w w' := by
  have hl : xs.length = n := by have := h.1; simpa using this
  have H := Lib.hid h
  have H' := Lib.hid h'
  have L := Lib.hid hl
  clear h h' hl
  go_enter Tryd.func17, Tryd.ntmps17
  go_wp2_with fail
  go_loopw [5] (fun v5 wr => ∃ (k : Nat), v5 = .int .i64 k ∧ k ≤ n ∧ Hid (Dr w wr)) (fun v5 _ => n - (intOf v5).toNat)
  case atStart => exact ⟨0, rfl, by omega, Dr.refl w⟩
  case round =>
    obtain ⟨k, rfl, hk, HD⟩ := hrel
    by_cases hlt : k < n
    · have hlt' : (k : Int) < n := by omega
      have hk0 : (0 : Int) ≤ (k : Int) := by omega
      obtain ⟨ad, u, rfl, -, hu, c1⟩ := (HD.out.reads H.out).at_ hlt
      obtain ⟨ad', u', rfl, -, hu', c2⟩ := (HD.out.reads H'.out).at_ hlt
      rw [hu] at hu'
      injection hu' with hu'
      subst hu'
      rw [List.getElem?_map, List.getElem?_eq_getElem (by rw [L.out]; exact hlt)] at hu
      obtain ⟨y, hy⟩ : ∃ y : Nat, NV y = u := ⟨_, by simpa using hu⟩
      unfold NV at hy
      subst hy
      clear hu
      go_wp2_with fail
      refine region_E 9 (fun W => W.cell? (ad.add k) = some (.int .i64 y) ∧ W.cell? (ad'.add k) = some (.int .i64 y)) (by kernel_rfl) ⟨c1, c2⟩ (fun hHeld => ?_)
      refine took 0 (v := ?_) rfl (by kernel_rfl) (by kernel_rfl) (by kernel_rfl) (by kernel_rfl) (fun _ _ _ h => h) (by rfl) (by assumption) ?_ ?_
      rotate_left
      · (intro W hSw; (try dsimp only at hSw); go_simp; first | done | with_reducible rfl)
      try simp only [Act.put, List.setIfInBounds_toArray, List.set_cons_zero, List.set_cons_succ]
      refine took 1 (v := ?_) rfl (by kernel_rfl) (by kernel_rfl) (by kernel_rfl) (by kernel_rfl) (fun _ _ _ h => h) (by rfl) (by assumption) ?_ ?_
      rotate_left
      · (intro W hSw; (try dsimp only at hSw); go_simp; first | done | with_reducible rfl)
      try simp only [Act.put, List.setIfInBounds_toArray, List.set_cons_zero, List.set_cons_succ]
      refine took 2 (v := ?_) rfl (by kernel_rfl) (by kernel_rfl) (by kernel_rfl) (by kernel_rfl) (fun _ _ _ h => h) (by rfl) (by assumption) ?_ ?_
      rotate_left
      · (intro W hSw; (try dsimp only at hSw); go_simp; first | done | with_reducible rfl)
      try simp only [Act.put, List.setIfInBounds_toArray, List.set_cons_zero, List.set_cons_succ]
      refine took 3 (v := ?_) rfl (by kernel_rfl) (by kernel_rfl) (by kernel_rfl) (by kernel_rfl) (fun _ _ _ h => h) (by rfl) (by assumption) ?_ ?_
      rotate_left
      · (intro W hSw; (try dsimp only at hSw); go_simp; first | done | with_reducible rfl)
      try simp only [Act.put, List.setIfInBounds_toArray, List.set_cons_zero, List.set_cons_succ]
      refine took 4 (v := ?_) rfl (by kernel_rfl) (by kernel_rfl) (by kernel_rfl) (by kernel_rfl) (fun _ _ _ h => h) (by rfl) (by assumption) ?_ ?_
      rotate_left
      · (intro W hSw; (try dsimp only at hSw); go_simp; first | done | with_reducible rfl)
      try simp only [Act.put, List.setIfInBounds_toArray, List.set_cons_zero, List.set_cons_succ]
      refine took 5 (v := ?_) rfl (by kernel_rfl) (by kernel_rfl) (by kernel_rfl) (by kernel_rfl) (fun _ _ _ h => h) (by rfl) (by assumption) ?_ ?_
      rotate_left
      · (intro W hSw; (try dsimp only at hSw); go_simp; first | done | with_reducible rfl)
      try simp only [Act.put, List.setIfInBounds_toArray, List.set_cons_zero, List.set_cons_succ]
      refine took 6 (v := ?_) rfl (by kernel_rfl) (by kernel_rfl) (by kernel_rfl) (by kernel_rfl) (fun _ _ _ h => h) (by rfl) (by assumption) ?_ ?_
      rotate_left
      · (intro W hSw; (try dsimp only at hSw); go_simp; first | done | with_reducible rfl)
      try simp only [Act.put, List.setIfInBounds_toArray, List.set_cons_zero, List.set_cons_succ]
      refine took 7 (v := ?_) rfl (by kernel_rfl) (by kernel_rfl) (by kernel_rfl) (by kernel_rfl) (fun _ _ _ h => h) (by rfl) (by assumption) ?_ ?_
      rotate_left
      · (intro W hSw; (try dsimp only at hSw); go_simp; first | done | with_reducible rfl)
      try simp only [Act.put, List.setIfInBounds_toArray, List.set_cons_zero, List.set_cons_succ]
      refine took 8 (v := ?_) rfl (by kernel_rfl) (by kernel_rfl) (by kernel_rfl) (by kernel_rfl) (fun _ _ _ h => h) (by rfl) (by assumption) ?_ ?_
      rotate_left
      · (intro W hSw; (try dsimp only at hSw); go_simp; first | done | with_reducible rfl)
      try simp only [Act.put, List.setIfInBounds_toArray, List.set_cons_zero, List.set_cons_succ]
      refine allDone (by kernel_rfl) ?_ _
      clear hHeld c1 c2
      go_wp2_with fail
      go_roundw
      case rel => exact ⟨k + 1, by go_num, by omega, HD.out.drewN 1⟩
      case measure => simp [intOf]; omega
    · have hge : (n : Int) ≤ k := by omega
      go_wp2_with fail
      go_ret
      exact ⟨rfl, HD.out⟩
/-- the two Reads hand back the same -/
theorem reads_both (k m ch n : Int) (A : Option Addr) (l c : Nat) (s : List UInt8) (w : World) (hnc : l ≤ c) (hcm : c ≤ maxLen) (hr : Reads w w.heap.size 1 A l (s.map B8)) (ht : Tab w) :
    ∃ v bd er, bd.length < 4294967296 ∧ ∀ W, Below w.heap.size w W → Calls Tryd.prog 15 #[.int .i64 k, .int .i64 m, .int .i64 ch, .int .i64 n, .slice A l c] W (RdRet W v bd er) ∧ Calls Tryd.prog 16 #[.int .i64 k, .int .i64 m, .int .i64 ch, .int .i64 n, .slice A l c] W (RdRet W v bd er) := by
  by_cases he : Stp.sizeE k m ch n = 0
  · have hok : Stp.ok k m ch n = true := by
      cases hok : Stp.ok k m ch n with
      | true => rfl
      | false => rw [(Stp.sizeE_no hok).1] at he; exact absurd he (by decide)
    obtain ⟨a, b, g, d, rfl, rfl, rfl, rfl, h1, h2, h3, h4, h5⟩ := Stp.ok_nat hok
    have hs : Stp.size a b g d ≤ 16777216 := by
      rcases Nat.lt_or_ge 16777216 (Stp.size a b g d) with h | h
      · rw [(Stp.sizeE_big hok h).1] at he; exact absurd he (by decide)
      · exact h
    have hv := (Stp.sizeE_in hok hs).2
    by_cases hl : l = Stp.size a b g d
    · have sh : Shp a b g d (Stp.num (a * g) d) (a * g) ((a + b) * (g + 4)) (Stp.num (a * g) d * (a * g)) (Stp.size a b g d) := ⟨h1, h2, h3, h4, h5, rfl, rfl, rfl, rfl, rfl, hs⟩
      subst hl
      refine ⟨_, _, _, ?_, fun W hW => ⟨read_in a b g d _ _ _ _ _ A c s W sh (ht.below hW ht.pos) ((hr.below hW).more hW.size) hnc hcm, refRead_in a b g d _ _ _ _ _ A c s W sh (Nat.lt_of_lt_of_le ht.pos hW.size) ((hr.below hW).more hW.size) hnc hcm⟩⟩
      unfold Stp.rdB
      split
      · refine Nat.lt_of_le_of_lt (Stp.badTo_len _ _ _) ?_
        have h6 : Stp.num (a * g) d * (a + b) ≤ Stp.num (a * g) d * ((a + b) * (g + 4)) := Nat.mul_le_mul_left _ (Nat.le_mul_of_pos_right _ (by omega))
        have h7 : Stp.num (a * g) d * ((a + b) * (g + 4)) = Stp.size a b g d := rfl
        omega
      · decide
    · exact ⟨_, _, _, (by decide : ([] : List Nat).length < 4294967296), fun W hW => ⟨read_len a b g d A l c _ W he hv hl, refRead_len a b g d A l c _ W he hv hl⟩⟩
  · exact ⟨_, _, _, (by decide : ([] : List Nat).length < 4294967296), fun W hW => ⟨read_no k m ch n _ A l c W rfl he, refRead_no k m ch n _ A l c W rfl he⟩⟩
set_option maxRecDepth 100000 in
set_option maxHeartbeats 4000000 in
theorem stripeReads_walk (k m ch n : Int) (A : Option Addr) (l c : Nat) (bs : List UInt8) (w : World) (_hk : (Lit.int .i64 k).wf = true) (_hm : (Lit.int .i64 m).wf = true) (_hc : (Lit.int .i64 ch).wf = true) (_hn : (Lit.int .i64 n).wf = true) (hnc : l ≤ c) (hcm : c ≤ maxLen) (hr : Reads w w.heap.size 1 A l (bs.map B8)) (ht : Tab w) :
    Calls Tryd.prog 5 #[.int .i64 k, .int .i64 m, .int .i64 ch, .int .i64 n, .slice A l c] w fun e w' => e = .returned (.bool true) ∧ Below w.heap.size w w' := by
  have KA := Lib.hid (stAlive_any w ht)
  obtain ⟨v, bd, er, hbl, hK⟩ := reads_both k m ch n A l c bs w hnc hcm hr ht
  replace hK := Lib.hid hK
  obtain ⟨vl, hvl⟩ : ∃ vl, v.length = vl := ⟨_, rfl⟩
  obtain ⟨bl, hbl2⟩ : ∃ bl, bd.length = bl := ⟨_, rfl⟩
  rw [hbl2] at hbl
  unfold RdRet at hK
  rw [hvl, hbl2] at hK
  have e1 : (er == er) = true := by simp
  clear _hk _hm _hc _hn hr ht
  replace hvl := Lib.hid hvl; replace hbl2 := Lib.hid hbl2
  by_cases hl : 2000 < l
  · have hl' : (2000 : Int) < (l : Int) := by omega
    go_enter Tryd.func5, Tryd.ntmps5
    go_wp2_with fail
    refine KA.out.mono ?_; rintro e w1 ⟨rfl, hB1⟩
    replace hB1 := Lib.hid hB1
    go_wp2_with fail
    go_ret
    exact ⟨rfl, hB1.out⟩
  · have hl' : ¬ (2000 : Int) < (l : Int) := by omega
    go_enter Tryd.func5, Tryd.ntmps5
    go_wp2_with fail
    refine KA.out.mono ?_; rintro e w1 ⟨rfl, hB1⟩
    have K1 := Lib.hid (hK.out w1 hB1).1
    replace hB1 := Lib.hid hB1
    go_wp2_with fail
    refine K1.out.mono ?_; rintro e w2 ⟨A1, c1, A2, c2, rfl, hr1, hr2, hB2⟩
    have HB2 := Lib.hid (below_then hB1.out hB2)
    have K2 := Lib.hid (hK.out w2 HB2.out).2
    replace hr1 := Lib.hid hr1; replace hr2 := Lib.hid hr2
    clear K1 hB2
    go_wp2_with fail
    refine K2.out.mono ?_; rintro e w3 ⟨A3, c3, A4, c4, rfl, hr3, hr4, hB3⟩
    have HB3 := Lib.hid (below_then HB2.out hB3)
    have KS := Lib.hid (same_any A1 A3 vl vl c1 c3 _ _ v v w3 (hr1.out.below hB3) hr3)
    rw [decide_eq_true rfl] at KS
    have KN := Lib.hid (sameN_any A2 A4 bl c2 c4 _ _ bd w3 (hr2.out.below hB3) hr4 hbl)
    clear K2 hB3 hr1 hr2 hr3 hr4 hK
    go_wp2_with fail
    refine KS.out.mono ?_; rintro e w4 ⟨rfl, rfl⟩
    go_wp2_with fail
    refine KN.out.mono ?_; rintro e w5 ⟨rfl, hD5⟩
    have HB5 := Lib.hid (HB3.out.trans (hD5.below _))
    clear hD5
    go_wp2_with fail
    go_ret
    exact ⟨rfl, HB5.out⟩
end Go.Proofs.YtjbedcgacnnanaaDoor
