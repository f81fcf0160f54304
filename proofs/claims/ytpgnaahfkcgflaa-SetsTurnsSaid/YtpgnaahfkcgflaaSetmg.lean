/-
  Merging two sets, walked.
-/
import Derived.Test.YtpgnaahfkcgflaaSetany
namespace Go.Proofs.Ytpgnaahfkcgflaa
set_option linter.unusedSimpArgs false
set_option linter.unusedVariables false
open Go.RowKit

theorem compare_any (a b : Int) (w : World) : Calls Try.prog 40 #[.int .i64 a, .int .i64 b] w fun e w' => e = .returned (.int .i64 (if a < b then -1 else if b < a then 1 else 0)) ∧ w = w' := by
  have N := fun x w => Lib.hid (nan1_any x w)
  by_cases h1 : a < b
  · rw [if_pos h1]
    go_enter Try.func40, Try.ntmps40
    go_wp2_with fail
    refine (N _ _).out.mono ?_; rintro e w' ⟨rfl, rfl⟩
    go_wp2_with fail
    refine (N _ _).out.mono ?_; rintro e w' ⟨rfl, rfl⟩
    go_wp2_with fail
    go_ret
    exact ⟨rfl, rfl⟩
  · rw [if_neg h1]
    by_cases h2 : b < a
    · rw [if_pos h2]
      go_enter Try.func40, Try.ntmps40
      go_wp2_with fail
      refine (N _ _).out.mono ?_; rintro e w' ⟨rfl, rfl⟩
      go_wp2_with fail
      refine (N _ _).out.mono ?_; rintro e w' ⟨rfl, rfl⟩
      go_wp2_with fail
      go_ret
      exact ⟨rfl, rfl⟩
    · rw [if_neg h2]
      go_enter Try.func40, Try.ntmps40
      go_wp2_with fail
      refine (N _ _).out.mono ?_; rintro e w' ⟨rfl, rfl⟩
      go_wp2_with fail
      refine (N _ _).out.mono ?_; rintro e w' ⟨rfl, rfl⟩
      go_wp2_with fail
      go_ret
      exact ⟨rfl, rfl⟩

set_option maxRecDepth 100000 in
set_option maxHeartbeats 8000000 in
theorem merge_any (A A' : Option Addr) (n c n' c' : Nat) (xs ys : List Int) (w : World) (h : Reads w w.heap.size 1 A n (xs.map I64)) (h' : Reads w w.heap.size 1 A' n' (ys.map I64)) (hnc : n ≤ c) (hnc' : n' ≤ c') (hn : n ≤ 1000000) (hn' : n' ≤ 1000000) :
    Calls Try.prog 35 #[.slice A n c, .slice A' n' c'] w (SlRet 3 w (Setp.merge xs ys).length ((Setp.merge xs ys).map I64)) := by
  obtain ⟨G, hG⟩ : ∃ G, Hid (Setp.merge xs ys = G) := ⟨_, rfl⟩
  rw [hG.out]
  have H := Lib.hid h
  have H' := Lib.hid h'
  obtain ⟨N, hN⟩ : ∃ N, N = n + n' := ⟨_, rfl⟩
  have hsum : (n : Int) + (n' : Int) = (N : Int) := by omega
  have hNb : N ≤ 2000000 := by omega
  replace hN := Lib.hid hN
  obtain ⟨i0, hi, hz0, hz1, hz2⟩ := info_parts info_int
  have CUT : Hid (∀ (Ap : Option Addr) (np cp : Nat), 1 ≤ np → ∀ W, (Instr.slice 25 (.slice Ap np cp) (some (.int .i64 1)) none none).run Try.prog W = .ok (.slice (cutA Ap cp 1 1) (np - 1) (cp - 1)) W) := fun Ap np cp hnp W => by
    have h := run_cut_lo (P := Try.prog) 25 3 i0 1 Try.underlying25 hi hz1 Ap np cp 1 .i64 hnp W
    simpa using h
  replace hi := Lib.hid hi; replace hz0 := Lib.hid hz0; replace hz1 := Lib.hid hz1; replace hz2 := Lib.hid hz2
  have CM := fun a b W => Lib.hid (compare_any a b W)
  replace CM := Lib.hid CM
  clear h h'
  go_enter Try.func35, Try.ntmps35
  go_wp2_with (at_make; refine wpList_make_own _ rfl _ _ 25 rfl w.heap.size 3 i0 (.int .i64 0) 1 Try.underlying25 hi.out hz0.out hz1.out .i64 .i64 _ N rfl rfl rfl (by rw [hz2.out]; omega) (by unfold maxLen; omega) (Nat.le_refl _) ?_; intro w2 ho2 hg2; have HB2 := Lib.hid (show Below w.heap.size w w2 from (Below.refl w.heap.size w).grown hg2 (Nat.le_refl _) (fun k hk => by cases hk)); replace ho2 := Lib.hid ho2; clear hg2)
  clear hsum
  go_loopw [0, 1, 5] (fun v0 v1 v5 wr => ∃ (Aa Ab A1 : Option Addr) (na ca nb cb m c1 : Nat) (xa ya out : List Int), v0 = .slice Aa na ca ∧ v1 = .slice Ab nb cb ∧ v5 = .slice A1 m c1 ∧ na ≤ ca ∧ nb ≤ cb ∧ m + na + nb ≤ N ∧ Hid (Below w.heap.size w wr) ∧ Hid (Reads w w.heap.size 1 Aa na (xa.map I64)) ∧ Hid (Reads w w.heap.size 1 Ab nb (ya.map I64)) ∧ Hid (out.length = m) ∧ Hid (wr.ownsRow w.heap.size 3 1 (.slice A1 m c1) m (out.map I64)) ∧ Hid (out ++ Setp.merge xa ya = G)) (fun v0 v1 _ _ => (match v0, v1 with | .slice _ p _, .slice _ q _ => p + q | _, _ => 0))
  case atStart => exact ⟨A, A', some ⟨w.heap.size, 0, none⟩, n, c, n', c', 0, N, xs, ys, [], rfl, rfl, rfl, hnc, hnc', by have := hN.out; omega, HB2, H, H', rfl, ho2, hG⟩
  case round =>
    clear HB2 ho2
    obtain ⟨Aa, Ab, A1, na, ca, nb, cb, m, c1, xa, ya, out, rfl, rfl, rfl, hca, hcb, hmN, HB, HA, HBb, HL, HO, HG⟩ := hrel
    have hb1 : m + 1 ≤ maxLen := by unfold maxLen; omega
    have hb2 : (m + 1) * 8 ≤ 140737488355328 := by omega
    by_cases h1 : 0 < na
    · by_cases h2 : 0 < nb
      · have h1' : (0 : Int) < (na : Int) := by omega
        have h2' : (0 : Int) < (nb : Int) := by omega
        have d1 : decide (0 < na) = true := by simpa using h1
        have d2 : decide (0 < nb) = true := by simpa using h2
        have lxa : xa.length = na := by have := HA.out.1; simpa using this
        have lya : ya.length = nb := by have := HBb.out.1; simpa using this
        obtain ⟨x, xt, hxa⟩ : ∃ x xt, xa = x :: xt := by
          cases xa with
          | nil => simp at lxa; omega
          | cons x xt => exact ⟨x, xt, rfl⟩
        obtain ⟨y, yt, hya⟩ : ∃ y yt, ya = y :: yt := by
          cases ya with
          | nil => simp at lya; omega
          | cons y yt => exact ⟨y, yt, rfl⟩
        subst hxa hya
        obtain ⟨ada, hAa, hba, hcella⟩ := ints_block HA.out h1
        obtain ⟨adb, hAb, hbb, hcellb⟩ := ints_block HBb.out h2
        subst hAa hAb
        have CA : Hid (∀ W, Below w.heap.size w W → W.cell? ada = some (.int .i64 x)) := fun W hW => (hW.cell (p := ada) hba).trans (by have := hcella 0 (by simp); simpa [Addr.add] using this)
        have CB : Hid (∀ W, Below w.heap.size w W → W.cell? adb = some (.int .i64 y)) := fun W hW => (hW.cell (p := adb) hbb).trans (by have := hcellb 0 (by simp); simpa [Addr.add] using this)
        have cutA_ := fun W => CUT.out (some ada) na ca h1 W
        have cutB_ := fun W => CUT.out (some adb) nb cb h2 W
        have RA : Hid (Reads w w.heap.size 1 (cutA (some ada) ca 1 1) (na - 1) (xt.map I64)) := by
          have := HA.out.cutN (k := 1) (by omega) hca
          simpa [Hid] using this
        have RB : Hid (Reads w w.heap.size 1 (cutA (some adb) cb 1 1) (nb - 1) (yt.map I64)) := by
          have := HBb.out.cutN (k := 1) (by omega) hcb
          simpa [Hid] using this
        have CMxy := Lib.hid (fun W => (CM.out x y W).out)
        clear hcella hcellb lxa lya
        generalize hAt : cutA (some ada) ca 1 1 = At at *
        generalize hBt : cutA (some adb) cb 1 1 = Bt at *
        replace hAt := Lib.hid hAt; replace hBt := Lib.hid hBt
        have ca0 := CA.out wr HB.out
        have cb0 := CB.out wr HB.out
        rcases Int.lt_trichotomy x y with hxy | hxy | hxy
        · have MG : Hid (out ++ [x] ++ Setp.merge xt (y :: yt) = G) := by
            rw [Hid, ← HG.out, Setp.merge, if_pos hxy]; simp
          rw [show (if x < y then (-1 : Int) else if y < x then 1 else 0) = -1 from if_pos hxy] at CMxy
          clear hxy
          go_wp2_with fail
          refine region_E 7 (fun W => W.cell? ada = some (.int .i64 x) ∧ W.cell? adb = some (.int .i64 y)) (by kernel_rfl) ⟨ca0, cb0⟩ (fun hHeld => ?_)
          refine took 0 (v := ?_) rfl (by kernel_rfl) (by kernel_rfl) (by kernel_rfl) (by kernel_rfl) (fun _ _ _ h => h) (by rfl) (by assumption) ?_ ?_
          rotate_left
          · (intro W hSw; (try dsimp only at hSw); go_simp; first | done | with_reducible rfl)
          try simp only [Act.put, List.setIfInBounds_toArray, List.set_cons_zero, List.set_cons_succ]
          refine took 1 (v := ?_) rfl (by kernel_rfl) (by kernel_rfl) (by kernel_rfl) (by kernel_rfl) (fun _ _ _ h => h) (by rfl) (by assumption) ?_ ?_
          rotate_left
          · (intro W hSw; (try dsimp only at hSw); go_simp; first | done | with_reducible rfl)
          try simp only [Act.put, List.setIfInBounds_toArray, List.set_cons_zero, List.set_cons_succ]
          refine took 2 (v := ?_) rfl (by kernel_rfl) (by kernel_rfl) (by kernel_rfl) (by kernel_rfl) (fun _ _ _ h => h) (by rfl) (by assumption) ?_ ?_
          rotate_left
          · (intro W hSw; (try dsimp only at hSw); go_simp; first | done | with_reducible rfl)
          try simp only [Act.put, List.setIfInBounds_toArray, List.set_cons_zero, List.set_cons_succ]
          refine took 3 (v := ?_) rfl (by kernel_rfl) (by kernel_rfl) (by kernel_rfl) (by kernel_rfl) (fun _ _ _ h => h) (by rfl) (by assumption) ?_ ?_
          rotate_left
          · (intro W hSw; (try dsimp only at hSw); go_simp; first | done | with_reducible rfl)
          try simp only [Act.put, List.setIfInBounds_toArray, List.set_cons_zero, List.set_cons_succ]
          refine took 4 (v := ?_) rfl (by kernel_rfl) (by kernel_rfl) (by kernel_rfl) (by kernel_rfl) (fun _ _ _ h => h) (by rfl) (by assumption) ?_ ?_
          rotate_left
          · (intro W hSw; (try dsimp only at hSw); go_simp; first | done | with_reducible rfl)
          try simp only [Act.put, List.setIfInBounds_toArray, List.set_cons_zero, List.set_cons_succ]
          refine took 5 (v := ?_) rfl (by kernel_rfl) (by kernel_rfl) (by kernel_rfl) (by kernel_rfl) (fun _ _ _ h => h) (by rfl) (by assumption) ?_ ?_
          rotate_left
          · (intro W hSw; (try dsimp only at hSw); go_simp; first | done | with_reducible rfl)
          try simp only [Act.put, List.setIfInBounds_toArray, List.set_cons_zero, List.set_cons_succ]
          refine carried 6 rfl (by kernel_rfl) (by rfl) (fun K hK => ?_)
          go_simp
          (go_at_call 40; ((with_reducible refine (CMxy.out _).mono ?_); rintro e w' ⟨rfl, rfl⟩))
          refine hK.out _ _ (hHeld) (fun hHeld => ?_)
          clear hK K
          try simp only [Act.put, List.setIfInBounds_toArray, List.set_cons_zero, List.set_cons_succ]
          refine allDone (by kernel_rfl) ?_ _
          clear hHeld
          replace HB := Lib.hid HB.out.drew
          replace HO := Lib.hid HO.out.drew
          replace ca0 : wr.drew.cell? ada = some (.int .i64 x) := ca0
          replace cb0 : wr.drew.cell? adb = some (.int .i64 y) := cb0
          generalize wr.drew = wr at *
          go_wp2_with (at_builtin; refine wpList_append_any _ rfl (.tmp 39) (.tmp 43) 25 rfl w.heap.size 3 i0 (.int .i64 0) 1 8 Try.underlying25 hi.out hz0.out hz1.out hz2.out rfl (by omega) A1 m c1 _ rfl (HO.out.alloc (.cells #[.int .i64 x] 3)) (wr.heap.size + 1) _ 1 1 _ rfl (reads_one wr _ _) (one_one rfl) hb1 hb2 (show w.heap.size ≤ (wr.alloc (.cells #[.int .i64 x] 3)).heap.size from Nat.le_trans HB.out.size (by simp)) ?_; intro A3 c3 w4 ho4 hgq _hsq; have hB4 : Below w.heap.size w w4 := below_app (HB.out.alloc HB.out.size (.cells #[.int .i64 x] 3)) hgq (HO.out.alloc (.cells #[.int .i64 x] 3)) (show w.heap.size ≤ (wr.alloc (.cells #[.int .i64 x] 3)).heap.size from Nat.le_trans HB.out.size (by simp)); replace ho4 := Lib.hid ho4; replace hB4 := Lib.hid hB4; clear hgq _hsq)
          go_roundw
          case rel => exact ⟨At, some adb, A3, na - 1, ca - 1, nb, cb, m + 1, c3, xt, y :: yt, out ++ [x], rfl, rfl, rfl, by omega, hcb, by omega, hB4, RA, HBb, (by rw [Hid, List.length_append, HL.out]; rfl), (by rw [List.map_append]; exact ho4), MG⟩
          case measure => simp; omega
        · have MG : Hid (out ++ [x] ++ Setp.merge xt yt = G) := by
            rw [Hid, ← HG.out, Setp.merge, if_neg (by omega), if_neg (by omega)]; simp
          rw [show (if x < y then (-1 : Int) else if y < x then 1 else 0) = 0 from by rw [if_neg (by omega), if_neg (by omega)]] at CMxy
          replace hxy := Lib.hid hxy
          go_wp2_with fail
          refine region_E 7 (fun W => W.cell? ada = some (.int .i64 x) ∧ W.cell? adb = some (.int .i64 y)) (by kernel_rfl) ⟨ca0, cb0⟩ (fun hHeld => ?_)
          refine took 0 (v := ?_) rfl (by kernel_rfl) (by kernel_rfl) (by kernel_rfl) (by kernel_rfl) (fun _ _ _ h => h) (by rfl) (by assumption) ?_ ?_
          rotate_left
          · (intro W hSw; (try dsimp only at hSw); go_simp; first | done | with_reducible rfl)
          try simp only [Act.put, List.setIfInBounds_toArray, List.set_cons_zero, List.set_cons_succ]
          refine took 1 (v := ?_) rfl (by kernel_rfl) (by kernel_rfl) (by kernel_rfl) (by kernel_rfl) (fun _ _ _ h => h) (by rfl) (by assumption) ?_ ?_
          rotate_left
          · (intro W hSw; (try dsimp only at hSw); go_simp; first | done | with_reducible rfl)
          try simp only [Act.put, List.setIfInBounds_toArray, List.set_cons_zero, List.set_cons_succ]
          refine took 2 (v := ?_) rfl (by kernel_rfl) (by kernel_rfl) (by kernel_rfl) (by kernel_rfl) (fun _ _ _ h => h) (by rfl) (by assumption) ?_ ?_
          rotate_left
          · (intro W hSw; (try dsimp only at hSw); go_simp; first | done | with_reducible rfl)
          try simp only [Act.put, List.setIfInBounds_toArray, List.set_cons_zero, List.set_cons_succ]
          refine took 3 (v := ?_) rfl (by kernel_rfl) (by kernel_rfl) (by kernel_rfl) (by kernel_rfl) (fun _ _ _ h => h) (by rfl) (by assumption) ?_ ?_
          rotate_left
          · (intro W hSw; (try dsimp only at hSw); go_simp; first | done | with_reducible rfl)
          try simp only [Act.put, List.setIfInBounds_toArray, List.set_cons_zero, List.set_cons_succ]
          refine took 4 (v := ?_) rfl (by kernel_rfl) (by kernel_rfl) (by kernel_rfl) (by kernel_rfl) (fun _ _ _ h => h) (by rfl) (by assumption) ?_ ?_
          rotate_left
          · (intro W hSw; (try dsimp only at hSw); go_simp; first | done | with_reducible rfl)
          try simp only [Act.put, List.setIfInBounds_toArray, List.set_cons_zero, List.set_cons_succ]
          refine took 5 (v := ?_) rfl (by kernel_rfl) (by kernel_rfl) (by kernel_rfl) (by kernel_rfl) (fun _ _ _ h => h) (by rfl) (by assumption) ?_ ?_
          rotate_left
          · (intro W hSw; (try dsimp only at hSw); go_simp; first | done | with_reducible rfl)
          try simp only [Act.put, List.setIfInBounds_toArray, List.set_cons_zero, List.set_cons_succ]
          refine carried 6 rfl (by kernel_rfl) (by rfl) (fun K hK => ?_)
          go_simp
          (go_at_call 40; ((with_reducible refine (CMxy.out _).mono ?_); rintro e w' ⟨rfl, rfl⟩))
          refine hK.out _ _ (hHeld) (fun hHeld => ?_)
          clear hK K
          try simp only [Act.put, List.setIfInBounds_toArray, List.set_cons_zero, List.set_cons_succ]
          refine allDone (by kernel_rfl) ?_ _
          clear hHeld
          replace HB := Lib.hid HB.out.drew
          replace HO := Lib.hid HO.out.drew
          replace ca0 : wr.drew.cell? ada = some (.int .i64 x) := ca0
          replace cb0 : wr.drew.cell? adb = some (.int .i64 y) := cb0
          generalize wr.drew = wr at *
          go_wp2_with (at_builtin; refine wpList_append_any _ rfl (.tmp 27) (.tmp 31) 25 rfl w.heap.size 3 i0 (.int .i64 0) 1 8 Try.underlying25 hi.out hz0.out hz1.out hz2.out rfl (by omega) A1 m c1 _ rfl (HO.out.alloc (.cells #[.int .i64 x] 3)) (wr.heap.size + 1) _ 1 1 _ rfl (reads_one wr _ _) (one_one rfl) hb1 hb2 (show w.heap.size ≤ (wr.alloc (.cells #[.int .i64 x] 3)).heap.size from Nat.le_trans HB.out.size (by simp)) ?_; intro A3 c3 w4 ho4 hgq _hsq; have hB4 : Below w.heap.size w w4 := below_app (HB.out.alloc HB.out.size (.cells #[.int .i64 x] 3)) hgq (HO.out.alloc (.cells #[.int .i64 x] 3)) (show w.heap.size ≤ (wr.alloc (.cells #[.int .i64 x] 3)).heap.size from Nat.le_trans HB.out.size (by simp)); replace ho4 := Lib.hid ho4; replace hB4 := Lib.hid hB4; clear hgq _hsq)
          refine region_E 6 (fun W => True) (by kernel_rfl) trivial (fun hHeld => ?_)
          refine took 0 (v := ?_) rfl (by kernel_rfl) (by kernel_rfl) (by kernel_rfl) (by kernel_rfl) (fun _ _ _ h => h) (by rfl) (by assumption) ?_ ?_
          rotate_left
          · (intro W hSw; (try dsimp only at hSw); go_simp; first | done | with_reducible rfl)
          try simp only [Act.put, List.setIfInBounds_toArray, List.set_cons_zero, List.set_cons_succ]
          refine took 1 (v := ?_) rfl (by kernel_rfl) (by kernel_rfl) (by kernel_rfl) (by kernel_rfl) (fun _ _ _ h => h) (by rfl) (by assumption) ?_ ?_
          rotate_left
          · (intro W hSw; (try dsimp only at hSw); go_simp; first | done | with_reducible rfl)
          try simp only [Act.put, List.setIfInBounds_toArray, List.set_cons_zero, List.set_cons_succ]
          refine took 2 (v := ?_) rfl (by kernel_rfl) (by kernel_rfl) (by kernel_rfl) (by kernel_rfl) (fun _ _ _ h => h) (by rfl) (by assumption) ?_ ?_
          rotate_left
          · (intro W hSw; (try dsimp only at hSw); go_simp; first | done | with_reducible rfl)
          try simp only [Act.put, List.setIfInBounds_toArray, List.set_cons_zero, List.set_cons_succ]
          refine took 3 (v := ?_) rfl (by kernel_rfl) (by kernel_rfl) (by kernel_rfl) (by kernel_rfl) (fun _ _ _ h => h) (by rfl) (by assumption) ?_ ?_
          rotate_left
          · (intro W hSw; (try dsimp only at hSw); go_simp; first | done | with_reducible rfl)
          try simp only [Act.put, List.setIfInBounds_toArray, List.set_cons_zero, List.set_cons_succ]
          refine took 4 (v := ?_) rfl (by kernel_rfl) (by kernel_rfl) (by kernel_rfl) (by kernel_rfl) (fun _ _ _ h => h) (by rfl) (by assumption) ?_ ?_
          rotate_left
          · (intro W hSw; (try dsimp only at hSw); go_simp; first | done | with_reducible rfl)
          try simp only [Act.put, List.setIfInBounds_toArray, List.set_cons_zero, List.set_cons_succ]
          refine took 5 (v := ?_) rfl (by kernel_rfl) (by kernel_rfl) (by kernel_rfl) (by kernel_rfl) (fun _ _ _ h => h) (by rfl) (by assumption) ?_ ?_
          rotate_left
          · (intro W hSw; (try dsimp only at hSw); go_simp; first | done | with_reducible rfl)
          try simp only [Act.put, List.setIfInBounds_toArray, List.set_cons_zero, List.set_cons_succ]
          refine allDone (by kernel_rfl) ?_ _
          clear hHeld
          go_wp2_with fail
          go_roundw
          case rel => exact ⟨At, Bt, A3, na - 1, ca - 1, nb - 1, cb - 1, m + 1, c3, xt, yt, out ++ [x], rfl, rfl, rfl, by omega, by omega, by omega, hB4.out.drew, RA, RB, (by rw [Hid, List.length_append, HL.out]; rfl), (by rw [List.map_append]; exact ho4.out.drew), MG⟩
          case measure => simp; omega
        · have MG : Hid (out ++ [y] ++ Setp.merge (x :: xt) yt = G) := by
            rw [Hid, ← HG.out, Setp.merge, if_neg (by omega), if_pos hxy]; simp
          rw [show (if x < y then (-1 : Int) else if y < x then 1 else 0) = 1 from by rw [if_neg (by omega), if_pos hxy]] at CMxy
          clear hxy
          go_wp2_with fail
          refine region_E 7 (fun W => W.cell? ada = some (.int .i64 x) ∧ W.cell? adb = some (.int .i64 y)) (by kernel_rfl) ⟨ca0, cb0⟩ (fun hHeld => ?_)
          refine took 0 (v := ?_) rfl (by kernel_rfl) (by kernel_rfl) (by kernel_rfl) (by kernel_rfl) (fun _ _ _ h => h) (by rfl) (by assumption) ?_ ?_
          rotate_left
          · (intro W hSw; (try dsimp only at hSw); go_simp; first | done | with_reducible rfl)
          try simp only [Act.put, List.setIfInBounds_toArray, List.set_cons_zero, List.set_cons_succ]
          refine took 1 (v := ?_) rfl (by kernel_rfl) (by kernel_rfl) (by kernel_rfl) (by kernel_rfl) (fun _ _ _ h => h) (by rfl) (by assumption) ?_ ?_
          rotate_left
          · (intro W hSw; (try dsimp only at hSw); go_simp; first | done | with_reducible rfl)
          try simp only [Act.put, List.setIfInBounds_toArray, List.set_cons_zero, List.set_cons_succ]
          refine took 2 (v := ?_) rfl (by kernel_rfl) (by kernel_rfl) (by kernel_rfl) (by kernel_rfl) (fun _ _ _ h => h) (by rfl) (by assumption) ?_ ?_
          rotate_left
          · (intro W hSw; (try dsimp only at hSw); go_simp; first | done | with_reducible rfl)
          try simp only [Act.put, List.setIfInBounds_toArray, List.set_cons_zero, List.set_cons_succ]
          refine took 3 (v := ?_) rfl (by kernel_rfl) (by kernel_rfl) (by kernel_rfl) (by kernel_rfl) (fun _ _ _ h => h) (by rfl) (by assumption) ?_ ?_
          rotate_left
          · (intro W hSw; (try dsimp only at hSw); go_simp; first | done | with_reducible rfl)
          try simp only [Act.put, List.setIfInBounds_toArray, List.set_cons_zero, List.set_cons_succ]
          refine took 4 (v := ?_) rfl (by kernel_rfl) (by kernel_rfl) (by kernel_rfl) (by kernel_rfl) (fun _ _ _ h => h) (by rfl) (by assumption) ?_ ?_
          rotate_left
          · (intro W hSw; (try dsimp only at hSw); go_simp; first | done | with_reducible rfl)
          try simp only [Act.put, List.setIfInBounds_toArray, List.set_cons_zero, List.set_cons_succ]
          refine took 5 (v := ?_) rfl (by kernel_rfl) (by kernel_rfl) (by kernel_rfl) (by kernel_rfl) (fun _ _ _ h => h) (by rfl) (by assumption) ?_ ?_
          rotate_left
          · (intro W hSw; (try dsimp only at hSw); go_simp; first | done | with_reducible rfl)
          try simp only [Act.put, List.setIfInBounds_toArray, List.set_cons_zero, List.set_cons_succ]
          refine carried 6 rfl (by kernel_rfl) (by rfl) (fun K hK => ?_)
          go_simp
          (go_at_call 40; ((with_reducible refine (CMxy.out _).mono ?_); rintro e w' ⟨rfl, rfl⟩))
          refine hK.out _ _ (hHeld) (fun hHeld => ?_)
          clear hK K
          try simp only [Act.put, List.setIfInBounds_toArray, List.set_cons_zero, List.set_cons_succ]
          refine allDone (by kernel_rfl) ?_ _
          clear hHeld
          replace HB := Lib.hid HB.out.drew
          replace HO := Lib.hid HO.out.drew
          replace ca0 : wr.drew.cell? ada = some (.int .i64 x) := ca0
          replace cb0 : wr.drew.cell? adb = some (.int .i64 y) := cb0
          generalize wr.drew = wr at *
          go_wp2_with (at_builtin; refine wpList_append_any _ rfl (.tmp 49) (.tmp 53) 25 rfl w.heap.size 3 i0 (.int .i64 0) 1 8 Try.underlying25 hi.out hz0.out hz1.out hz2.out rfl (by omega) A1 m c1 _ rfl (HO.out.alloc (.cells #[.int .i64 y] 3)) (wr.heap.size + 1) _ 1 1 _ rfl (reads_one wr _ _) (one_one rfl) hb1 hb2 (show w.heap.size ≤ (wr.alloc (.cells #[.int .i64 y] 3)).heap.size from Nat.le_trans HB.out.size (by simp)) ?_; intro A3 c3 w4 ho4 hgq _hsq; have hB4 : Below w.heap.size w w4 := below_app (HB.out.alloc HB.out.size (.cells #[.int .i64 y] 3)) hgq (HO.out.alloc (.cells #[.int .i64 y] 3)) (show w.heap.size ≤ (wr.alloc (.cells #[.int .i64 y] 3)).heap.size from Nat.le_trans HB.out.size (by simp)); replace ho4 := Lib.hid ho4; replace hB4 := Lib.hid hB4; clear hgq _hsq)
          go_roundw
          case rel => exact ⟨some ada, Bt, A3, na, ca, nb - 1, cb - 1, m + 1, c3, x :: xt, yt, out ++ [y], rfl, rfl, rfl, hca, by omega, by omega, hB4, HA, RB, (by rw [Hid, List.length_append, HL.out]; rfl), (by rw [List.map_append]; exact ho4), MG⟩
          case measure => simp; omega
      · have hnb0 : nb = 0 := by omega
        have HE : Hid (out ++ xa ++ ya = G) := by
          have hy : ya = [] := List.eq_nil_of_length_eq_zero (by have := HBb.out.1; simp at this; omega)
          rw [Hid, ← HG.out, hy]
          cases xa <;> simp [Setp.merge]
        have d1 : decide (0 < na) = true := by simpa using h1
        have d1' : decide ((0 : Int) < (na : Int)) = true := by simpa using h1
        have d2 : decide (0 < nb) = false := by simpa using h2
        have d2' : decide ((0 : Int) < (nb : Int)) = false := by simpa using h2
        have hnb00 : ((nb : Nat) : Int) ≤ 0 := by omega
        replace hnb0 := Lib.hid hnb0
        have lxa : Hid (xa.length = na) := by have := HA.out.1; simpa [Hid] using this
        have lya : Hid (ya.length = nb) := by have := HBb.out.1; simpa [Hid] using this
        have hc1 : m + na ≤ maxLen := by unfold maxLen; omega
        have hc2 : (m + na) * 8 ≤ 140737488355328 := by omega
        have hc3 : m + na + nb ≤ maxLen := by unfold maxLen; omega
        have hc4 : (m + na + nb) * 8 ≤ 140737488355328 := by omega
        have HLG : Hid (G.length = m + na + nb) := by rw [Hid, ← HE.out, List.length_append, List.length_append, HL.out, lxa.out, lya.out]
        go_wp2_with (first
          | (at_builtin; refine wpList_append_any _ rfl (.tmp 57) (.tmp 58) 25 rfl w.heap.size 3 i0 (.int .i64 0) 1 8 Try.underlying25 hi.out hz0.out hz1.out hz2.out rfl (by omega) A1 m c1 _ rfl HO.out w.heap.size Aa na ca _ rfl (HA.out.below HB.out) (i64_one _) hc1 hc2 HB.out.size ?_; intro A3 c3 w4 ho4 hg4 _hs4; have hB4 : Below w.heap.size w w4 := below_app HB.out hg4 HO.out HB.out.size; replace ho4 := Lib.hid ho4; replace hB4 := Lib.hid hB4; clear hg4 _hs4)
          | (at_builtin; refine wpList_append_any _ rfl (.tmp 59) (.tmp 60) 25 rfl w.heap.size 3 i0 (.int .i64 0) 1 8 Try.underlying25 hi.out hz0.out hz1.out hz2.out rfl (by omega) A3 (m + na) c3 _ rfl ho4.out w.heap.size Ab nb cb _ rfl (HBb.out.below hB4.out) (i64_one _) hc3 hc4 hB4.out.size ?_; intro A5 c5 w5 ho5 hg5 _hs5; have hB5 : Below w.heap.size w w5 := below_app hB4.out hg5 ho4.out hB4.out.size; replace ho5 := Lib.hid ho5; replace hB5 := Lib.hid hB5; clear hg5 _hs5))
        go_ret
        exact ⟨A5, c5, (show Ending.returned (.slice A5 (m + na + nb) c5) = _ by rw [HLG.out]), (by rw [HLG.out, ← HE.out, List.map_append, List.map_append]; exact ho5.out), hB5.out⟩
    · have hna0 : na = 0 := by omega
      have HE : Hid (out ++ xa ++ ya = G) := by
        have hx : xa = [] := List.eq_nil_of_length_eq_zero (by have := HA.out.1; simp at this; omega)
        rw [Hid, ← HG.out, hx]
        simp [Setp.merge]
      have d1 : decide (0 < na) = false := by simpa using h1
      have d1' : decide ((0 : Int) < (na : Int)) = false := by simpa using h1
      have hna00 : ((na : Nat) : Int) ≤ 0 := by omega
      replace hna0 := Lib.hid hna0
      have lxa : Hid (xa.length = na) := by have := HA.out.1; simpa [Hid] using this
      have lya : Hid (ya.length = nb) := by have := HBb.out.1; simpa [Hid] using this
      have hc1 : m + na ≤ maxLen := by unfold maxLen; omega
      have hc2 : (m + na) * 8 ≤ 140737488355328 := by omega
      have hc3 : m + na + nb ≤ maxLen := by unfold maxLen; omega
      have hc4 : (m + na + nb) * 8 ≤ 140737488355328 := by omega
      have HLG : Hid (G.length = m + na + nb) := by rw [Hid, ← HE.out, List.length_append, List.length_append, HL.out, lxa.out, lya.out]
      go_wp2_with (first
        | (at_builtin; refine wpList_append_any _ rfl (.tmp 57) (.tmp 58) 25 rfl w.heap.size 3 i0 (.int .i64 0) 1 8 Try.underlying25 hi.out hz0.out hz1.out hz2.out rfl (by omega) A1 m c1 _ rfl HO.out w.heap.size Aa na ca _ rfl (HA.out.below HB.out) (i64_one _) hc1 hc2 HB.out.size ?_; intro A3 c3 w4 ho4 hg4 _hs4; have hB4 : Below w.heap.size w w4 := below_app HB.out hg4 HO.out HB.out.size; replace ho4 := Lib.hid ho4; replace hB4 := Lib.hid hB4; clear hg4 _hs4)
        | (at_builtin; refine wpList_append_any _ rfl (.tmp 59) (.tmp 60) 25 rfl w.heap.size 3 i0 (.int .i64 0) 1 8 Try.underlying25 hi.out hz0.out hz1.out hz2.out rfl (by omega) A3 (m + na) c3 _ rfl ho4.out w.heap.size Ab nb cb _ rfl (HBb.out.below hB4.out) (i64_one _) hc3 hc4 hB4.out.size ?_; intro A5 c5 w5 ho5 hg5 _hs5; have hB5 : Below w.heap.size w w5 := below_app hB4.out hg5 ho4.out hB4.out.size; replace ho5 := Lib.hid ho5; replace hB5 := Lib.hid hB5; clear hg5 _hs5))
      go_ret
      exact ⟨A5, c5, (show Ending.returned (.slice A5 (m + na + nb) c5) = _ by rw [HLG.out]), (by rw [HLG.out, ← HE.out, List.map_append, List.map_append]; exact ho5.out), hB5.out⟩
end Go.Proofs.Ytpgnaahfkcgflaa
