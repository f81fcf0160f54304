/-
  The document's May, Has, all, Same; the laws' great: walked.
-/
import Derived.Test.YtpgnaahfkcgflaaSetv
import Derived.Test.YtpgnaahfkcgflaaOpi
namespace Go.Proofs.Ytpgnaahfkcgflaa
set_option linter.unusedSimpArgs false
set_option linter.unusedVariables false
open Go.RowKit

theorem Dr.drew {a w : World} (h : Dr a w) : Dr a w.drew := h.drewN 1
theorem ints_block {w : World} {B n : Nat} {A : Option Addr} {xs : List Int} (h : Reads w B 1 A n (xs.map I64)) (hn : 0 < n) : ∃ ad, A = some ad ∧ ad.block < B ∧ ∀ j (hj : j < xs.length), w.cell? (ad.add j) = some (.int .i64 xs[j]) := by
  obtain ⟨ad, hA, hb, hc⟩ := h.2 hn
  exact ⟨ad, hA, hb, fun j hj => hc j (I64 xs[j]) (by rw [List.getElem?_map, List.getElem?_eq_getElem hj]; rfl)⟩
theorem RowsI.row {w : World} {B n k : Nat} {A : Option Addr} {xss : List (List Int)} (h : RowsI w B A n xss) (hk : k < n) :
    ∃ ad xs Ai ni ci, A = some ad ∧ ad.block < B ∧ xss[k]? = some xs ∧ w.cell? (ad.add k) = some (.slice Ai ni ci) ∧ ni ≤ ci ∧ ci ≤ maxLen ∧ Reads w B 1 Ai ni (xs.map I64) := by
  obtain ⟨cs, hr, hl, hc⟩ := h
  obtain ⟨ad, u, hA, hb, hu, hcell⟩ := hr.at_ hk
  obtain ⟨Ai, ni, ci, h1, h2, h3, h4⟩ := hc k (xss[k]'(by omega)) (List.getElem?_eq_getElem _)
  rw [hu] at h1
  injection h1 with h1
  subst h1
  exact ⟨ad, _, Ai, ni, ci, hA, hb, List.getElem?_eq_getElem _, hcell, h2, h3, h4⟩
theorem RowsI.keep {w w' : World} {B n : Nat} {A : Option Addr} {xss : List (List Int)} (h : RowsI w B A n xss) (hk : ∀ p : Addr, p.block < B → w'.cell? p = w.cell? p) : RowsI w' B A n xss := by
  obtain ⟨cs, hr, hl, hc⟩ := h
  refine ⟨cs, hr.keep hk, hl, fun i xs hi => ?_⟩
  obtain ⟨Ai, ni, ci, h1, h2, h3, h4⟩ := hc i xs hi
  exact ⟨Ai, ni, ci, h1, h2, h3, h4.keep hk⟩
theorem RowsI.below {w w' : World} {B n : Nat} {A : Option Addr} {xss : List (List Int)} (h : RowsI w B A n xss) (hb : Below B w w') : RowsI w' B A n xss := h.keep fun _ hp => hb.cell hp
theorem RowsI.dr {w w' : World} {B n : Nat} {A : Option Addr} {xss : List (List Int)} (h : RowsI w B A n xss) (hd : Dr w w') : RowsI w' B A n xss := by
  obtain ⟨m, rfl⟩ := hd
  exact h
theorem RowsI.more {w : World} {B B' n : Nat} {A : Option Addr} {xss : List (List Int)} (h : RowsI w B A n xss) (hB : B ≤ B') : RowsI w B' A n xss := by
  obtain ⟨cs, hr, hl, hc⟩ := h
  refine ⟨cs, hr.more hB, hl, fun i xs hi => ?_⟩
  obtain ⟨Ai, ni, ci, h1, h2, h3, h4⟩ := hc i xs hi
  exact ⟨Ai, ni, ci, h1, h2, h3, h4.more hB⟩
theorem RowsI.len {w : World} {B n : Nat} {A : Option Addr} {xss : List (List Int)} (h : RowsI w B A n xss) : xss.length = n := h.choose_spec.2.1

set_option maxRecDepth 100000 in
set_option maxHeartbeats 4000000 in
theorem refMay_any (A : Option Addr) (n c B : Nat) (xs : List Int) (w : World) (h : Reads w B 1 A n (xs.map I64)) (hn : n < 4294967296) :
    Calls Try.prog 18 #[.slice A n c] w fun e w' => e = .returned (.bool (Setp.may xs)) ∧ Dr w w' := by
  have hl : xs.length = n := by have := h.1; simpa using this
  have H := Lib.hid h
  have L := Lib.hid hl
  clear h hl
  go_enter Try.func18, Try.ntmps18
  go_wp2_with fail
  go_loopw [3] (fun v3 wr => ∃ (k : Nat) (was : Int), v3 = .int .i64 k ∧ k ≤ n ∧ Hid (Dr w wr) ∧ Hid (-1 ≤ was) ∧ Hid (k = 0 → was = -1) ∧ Hid (∀ p, k = p + 1 → xs[p]? = some was) ∧ Hid (Setp.mayGo was (xs.drop k) = Setp.may xs)) (fun v3 _ => n - (intOf v3).toNat)
  case atStart => exact ⟨0, -1, rfl, by omega, Dr.refl w, (by unfold Hid; omega), fun _ => rfl, fun p hp => by omega, rfl⟩
  case round =>
    obtain ⟨k, was, rfl, hk, HD, Hw, Hw0, Hw1, Hg⟩ := hrel
    by_cases hlt : k < n
    · have hlt' : (k : Int) < n := by omega
      obtain ⟨ad, rfl, hcell⟩ := ints_cells (HD.out.reads H.out) (by omega)
      have hkx : k < xs.length := by rw [L.out]; exact hlt
      have c1 := hcell k hkx
      have Hg2 : Hid ((decide (was < xs[k]) && Setp.mayGo xs[k] (xs.drop (k + 1))) = Setp.may xs) := by
        rw [← Hg.out, List.drop_eq_getElem_cons hkx]; rfl
      have Hx : Hid (xs[k]? = some xs[k]) := List.getElem?_eq_getElem hkx
      have CP : Hid (∀ p, k = p + 1 → wr.cell? (ad.add p) = some (.int .i64 was)) := fun p hp => by
        have hpx : p < xs.length := by omega
        have h2 := hcell p hpx
        have h1 := Hw1.out p hp
        rw [List.getElem?_eq_getElem hpx] at h1
        injection h1 with h1
        rw [h1] at h2; exact h2
      clear hcell Hg Hw1
      generalize xs[k] = y at *
      have Hnext : Hid (∀ p, k + 1 = p + 1 → xs[p]? = some y) := fun p hp => by rw [show p = k by omega]; exact Hx.out
      have Hbad : Hid (¬ was < y → Setp.may xs = false) := fun hy => by rw [← Hg2.out]; simp [hy]
      have Hgood : Hid (was < y → Setp.mayGo y (xs.drop (k + 1)) = Setp.may xs) := fun hy => by rw [← Hg2.out]; simp [hy]
      clear Hg2
      by_cases hneg : y < 0
      · have Hm : Hid (Setp.may xs = false) := by
          rcases Nat.eq_zero_or_pos k with h0 | h0
          · exact Hbad.out (by rw [Hw0.out h0]; omega)
          · exact Hbad.out (by have := Hw.out; omega)
        have hd : decide (y < 0) = true := by simpa using hneg
        clear hneg
        go_wp2_with fail
        refine region_E 21 (fun W => W.cell? (ad.add k) = some (.int .i64 y)) (by kernel_rfl) c1 (fun hHeld => ?_)
        refine took 0 (v := ?_) rfl (by kernel_rfl) (by kernel_rfl) (by kernel_rfl) (by kernel_rfl) (fun _ _ _ h => h) (by rfl) (by assumption) ?_ ?_
        rotate_left
        · (intro W hSw; (try dsimp only at hSw); go_simp; first | done | with_reducible rfl)
        try simp only [Act.put, List.setIfInBounds_toArray, List.set_cons_zero, List.set_cons_succ]
        refine took 1 (v := ?_) rfl (by kernel_rfl) (by kernel_rfl) (by kernel_rfl) (by kernel_rfl) (fun _ _ _ h => h) (by rfl) (by assumption) ?_ ?_
        rotate_left
        · (intro W hSw; (try dsimp only at hSw); go_simp; first | done | with_reducible rfl)
        try simp only [Act.put, List.setIfInBounds_toArray, List.set_cons_zero, List.set_cons_succ]
        refine took 2 (v := ?_) rfl (by kernel_rfl) (by kernel_rfl) (by kernel_rfl) (by kernel_rfl) (fun _ _ _ h => h) (by rfl) (by assumption) ?_ ?_
        rotate_left
        · (intro W hSw; (try dsimp only at hSw); go_simp; first | done | with_reducible rfl)
        try simp only [Act.put, List.setIfInBounds_toArray, List.set_cons_zero, List.set_cons_succ]
        refine took 3 (v := ?_) rfl (by kernel_rfl) (by kernel_rfl) (by kernel_rfl) (by kernel_rfl) (fun _ _ _ h => h) (by rfl) (by assumption) ?_ ?_
        rotate_left
        · (intro W hSw; (try dsimp only at hSw); go_simp; first | done | with_reducible rfl)
        try simp only [Act.put, List.setIfInBounds_toArray, List.set_cons_zero, List.set_cons_succ]
        refine took 4 (v := ?_) rfl (by kernel_rfl) (by kernel_rfl) (by kernel_rfl) (by kernel_rfl) (fun _ _ _ h => h) (by rfl) (by assumption) ?_ ?_
        rotate_left
        · (intro W hSw; (try dsimp only at hSw); go_simp; first | done | with_reducible rfl)
        try simp only [Act.put, List.setIfInBounds_toArray, List.set_cons_zero, List.set_cons_succ]
        refine took 5 (v := ?_) rfl (by kernel_rfl) (by kernel_rfl) (by kernel_rfl) (by kernel_rfl) (fun _ _ _ h => h) (by rfl) (by assumption) ?_ ?_
        rotate_left
        · (intro W hSw; (try dsimp only at hSw); go_simp; first | done | with_reducible rfl)
        try simp only [Act.put, List.setIfInBounds_toArray, List.set_cons_zero, List.set_cons_succ]
        refine passed 6 rfl (by kernel_rfl) (by kernel_rfl) (by kernel_rfl) (by kernel_rfl) (fun _ _ _ h => h) (by rfl) (by assumption) ?_
        try simp only [Act.put, List.setIfInBounds_toArray, List.set_cons_zero, List.set_cons_succ]
        refine passed 7 rfl (by kernel_rfl) (by kernel_rfl) (by kernel_rfl) (by kernel_rfl) (fun _ _ _ h => h) (by rfl) (by assumption) ?_
        try simp only [Act.put, List.setIfInBounds_toArray, List.set_cons_zero, List.set_cons_succ]
        refine passed 8 rfl (by kernel_rfl) (by kernel_rfl) (by kernel_rfl) (by kernel_rfl) (fun _ _ _ h => h) (by rfl) (by assumption) ?_
        try simp only [Act.put, List.setIfInBounds_toArray, List.set_cons_zero, List.set_cons_succ]
        refine passed 9 rfl (by kernel_rfl) (by kernel_rfl) (by kernel_rfl) (by kernel_rfl) (fun _ _ _ h => h) (by rfl) (by assumption) ?_
        try simp only [Act.put, List.setIfInBounds_toArray, List.set_cons_zero, List.set_cons_succ]
        refine passed 10 rfl (by kernel_rfl) (by kernel_rfl) (by kernel_rfl) (by kernel_rfl) (fun _ _ _ h => h) (by rfl) (by assumption) ?_
        try simp only [Act.put, List.setIfInBounds_toArray, List.set_cons_zero, List.set_cons_succ]
        refine passed 11 rfl (by kernel_rfl) (by kernel_rfl) (by kernel_rfl) (by kernel_rfl) (fun _ _ _ h => h) (by rfl) (by assumption) ?_
        try simp only [Act.put, List.setIfInBounds_toArray, List.set_cons_zero, List.set_cons_succ]
        refine passed 12 rfl (by kernel_rfl) (by kernel_rfl) (by kernel_rfl) (by kernel_rfl) (fun _ _ _ h => h) (by rfl) (by assumption) ?_
        try simp only [Act.put, List.setIfInBounds_toArray, List.set_cons_zero, List.set_cons_succ]
        refine passed 13 rfl (by kernel_rfl) (by kernel_rfl) (by kernel_rfl) (by kernel_rfl) (fun _ _ _ h => h) (by rfl) (by assumption) ?_
        try simp only [Act.put, List.setIfInBounds_toArray, List.set_cons_zero, List.set_cons_succ]
        refine passed 14 rfl (by kernel_rfl) (by kernel_rfl) (by kernel_rfl) (by kernel_rfl) (fun _ _ _ h => h) (by rfl) (by assumption) ?_
        try simp only [Act.put, List.setIfInBounds_toArray, List.set_cons_zero, List.set_cons_succ]
        refine passed 15 rfl (by kernel_rfl) (by kernel_rfl) (by kernel_rfl) (by kernel_rfl) (fun _ _ _ h => h) (by rfl) (by assumption) ?_
        try simp only [Act.put, List.setIfInBounds_toArray, List.set_cons_zero, List.set_cons_succ]
        refine passed 16 rfl (by kernel_rfl) (by kernel_rfl) (by kernel_rfl) (by kernel_rfl) (fun _ _ _ h => h) (by rfl) (by assumption) ?_
        try simp only [Act.put, List.setIfInBounds_toArray, List.set_cons_zero, List.set_cons_succ]
        refine passed 17 rfl (by kernel_rfl) (by kernel_rfl) (by kernel_rfl) (by kernel_rfl) (fun _ _ _ h => h) (by rfl) (by assumption) ?_
        try simp only [Act.put, List.setIfInBounds_toArray, List.set_cons_zero, List.set_cons_succ]
        refine passed 18 rfl (by kernel_rfl) (by kernel_rfl) (by kernel_rfl) (by kernel_rfl) (fun _ _ _ h => h) (by rfl) (by assumption) ?_
        try simp only [Act.put, List.setIfInBounds_toArray, List.set_cons_zero, List.set_cons_succ]
        refine passed 19 rfl (by kernel_rfl) (by kernel_rfl) (by kernel_rfl) (by kernel_rfl) (fun _ _ _ h => h) (by rfl) (by assumption) ?_
        try simp only [Act.put, List.setIfInBounds_toArray, List.set_cons_zero, List.set_cons_succ]
        refine took 20 (v := ?_) rfl (by kernel_rfl) (by kernel_rfl) (by kernel_rfl) (by kernel_rfl) (fun _ _ _ h => h) (by rfl) (by assumption) ?_ ?_
        rotate_left
        · (intro W hSw; (try dsimp only at hSw); go_simp; first | done | with_reducible rfl)
        try simp only [Act.put, List.setIfInBounds_toArray, List.set_cons_zero, List.set_cons_succ]
        refine allDone (by kernel_rfl) ?_ _
        go_wp2_with fail
        go_ret
        exact ⟨ret_bool Hm.out.symm, HD.out.drew⟩
      · have hd : decide (y < 0) = false := by simpa using hneg
        rcases Nat.eq_zero_or_pos k with h0 | h0
        · have Hm := Lib.hid (Hgood.out (by rw [Hw0.out h0]; omega))
          have hd0 : decide ((0 : Int) < (k : Int)) = false := by simpa using h0
          have hd0' : decide (0 < k) = false := by simpa using h0
          clear hneg
          replace h0 := Lib.hid h0
          go_wp2_with fail
          refine region_E 21 (fun W => W.cell? (ad.add k) = some (.int .i64 y)) (by kernel_rfl) c1 (fun hHeld => ?_)
          refine took 0 (v := ?_) rfl (by kernel_rfl) (by kernel_rfl) (by kernel_rfl) (by kernel_rfl) (fun _ _ _ h => h) (by rfl) (by assumption) ?_ ?_
          rotate_left
          · (intro W hSw; (try dsimp only at hSw); go_simp; first | done | with_reducible rfl)
          try simp only [Act.put, List.setIfInBounds_toArray, List.set_cons_zero, List.set_cons_succ]
          refine took 1 (v := ?_) rfl (by kernel_rfl) (by kernel_rfl) (by kernel_rfl) (by kernel_rfl) (fun _ _ _ h => h) (by rfl) (by assumption) ?_ ?_
          rotate_left
          · (intro W hSw; (try dsimp only at hSw); go_simp; first | done | with_reducible rfl)
          try simp only [Act.put, List.setIfInBounds_toArray, List.set_cons_zero, List.set_cons_succ]
          refine took 2 (v := ?_) rfl (by kernel_rfl) (by kernel_rfl) (by kernel_rfl) (by kernel_rfl) (fun _ _ _ h => h) (by rfl) (by assumption) ?_ ?_
          rotate_left
          · (intro W hSw; (try dsimp only at hSw); go_simp; first | done | with_reducible rfl)
          try simp only [Act.put, List.setIfInBounds_toArray, List.set_cons_zero, List.set_cons_succ]
          refine took 3 (v := ?_) rfl (by kernel_rfl) (by kernel_rfl) (by kernel_rfl) (by kernel_rfl) (fun _ _ _ h => h) (by rfl) (by assumption) ?_ ?_
          rotate_left
          · (intro W hSw; (try dsimp only at hSw); go_simp; first | done | with_reducible rfl)
          try simp only [Act.put, List.setIfInBounds_toArray, List.set_cons_zero, List.set_cons_succ]
          refine took 4 (v := ?_) rfl (by kernel_rfl) (by kernel_rfl) (by kernel_rfl) (by kernel_rfl) (fun _ _ _ h => h) (by rfl) (by assumption) ?_ ?_
          rotate_left
          · (intro W hSw; (try dsimp only at hSw); go_simp; first | done | with_reducible rfl)
          try simp only [Act.put, List.setIfInBounds_toArray, List.set_cons_zero, List.set_cons_succ]
          refine took 5 (v := ?_) rfl (by kernel_rfl) (by kernel_rfl) (by kernel_rfl) (by kernel_rfl) (fun _ _ _ h => h) (by rfl) (by assumption) ?_ ?_
          rotate_left
          · (intro W hSw; (try dsimp only at hSw); go_simp; first | done | with_reducible rfl)
          try simp only [Act.put, List.setIfInBounds_toArray, List.set_cons_zero, List.set_cons_succ]
          refine took 6 (v := ?_) rfl (by kernel_rfl) (by kernel_rfl) (by kernel_rfl) (by kernel_rfl) (fun _ _ _ h => h) (by rfl) (by assumption) ?_ ?_
          rotate_left
          · (intro W hSw; (try dsimp only at hSw); go_simp; first | done | with_reducible rfl)
          try simp only [Act.put, List.setIfInBounds_toArray, List.set_cons_zero, List.set_cons_succ]
          refine took 7 (v := ?_) rfl (by kernel_rfl) (by kernel_rfl) (by kernel_rfl) (by kernel_rfl) (fun _ _ _ h => h) (by rfl) (by assumption) ?_ ?_
          rotate_left
          · (intro W hSw; (try dsimp only at hSw); go_simp; first | done | with_reducible rfl)
          try simp only [Act.put, List.setIfInBounds_toArray, List.set_cons_zero, List.set_cons_succ]
          refine took 8 (v := ?_) rfl (by kernel_rfl) (by kernel_rfl) (by kernel_rfl) (by kernel_rfl) (fun _ _ _ h => h) (by rfl) (by assumption) ?_ ?_
          rotate_left
          · (intro W hSw; (try dsimp only at hSw); go_simp; first | done | with_reducible rfl)
          try simp only [Act.put, List.setIfInBounds_toArray, List.set_cons_zero, List.set_cons_succ]
          refine passed 9 rfl (by kernel_rfl) (by kernel_rfl) (by kernel_rfl) (by kernel_rfl) (fun _ _ _ h => h) (by rfl) (by assumption) ?_
          try simp only [Act.put, List.setIfInBounds_toArray, List.set_cons_zero, List.set_cons_succ]
          refine passed 10 rfl (by kernel_rfl) (by kernel_rfl) (by kernel_rfl) (by kernel_rfl) (fun _ _ _ h => h) (by rfl) (by assumption) ?_
          try simp only [Act.put, List.setIfInBounds_toArray, List.set_cons_zero, List.set_cons_succ]
          refine passed 11 rfl (by kernel_rfl) (by kernel_rfl) (by kernel_rfl) (by kernel_rfl) (fun _ _ _ h => h) (by rfl) (by assumption) ?_
          try simp only [Act.put, List.setIfInBounds_toArray, List.set_cons_zero, List.set_cons_succ]
          refine passed 12 rfl (by kernel_rfl) (by kernel_rfl) (by kernel_rfl) (by kernel_rfl) (fun _ _ _ h => h) (by rfl) (by assumption) ?_
          try simp only [Act.put, List.setIfInBounds_toArray, List.set_cons_zero, List.set_cons_succ]
          refine passed 13 rfl (by kernel_rfl) (by kernel_rfl) (by kernel_rfl) (by kernel_rfl) (fun _ _ _ h => h) (by rfl) (by assumption) ?_
          try simp only [Act.put, List.setIfInBounds_toArray, List.set_cons_zero, List.set_cons_succ]
          refine passed 14 rfl (by kernel_rfl) (by kernel_rfl) (by kernel_rfl) (by kernel_rfl) (fun _ _ _ h => h) (by rfl) (by assumption) ?_
          try simp only [Act.put, List.setIfInBounds_toArray, List.set_cons_zero, List.set_cons_succ]
          refine passed 15 rfl (by kernel_rfl) (by kernel_rfl) (by kernel_rfl) (by kernel_rfl) (fun _ _ _ h => h) (by rfl) (by assumption) ?_
          try simp only [Act.put, List.setIfInBounds_toArray, List.set_cons_zero, List.set_cons_succ]
          refine passed 16 rfl (by kernel_rfl) (by kernel_rfl) (by kernel_rfl) (by kernel_rfl) (fun _ _ _ h => h) (by rfl) (by assumption) ?_
          try simp only [Act.put, List.setIfInBounds_toArray, List.set_cons_zero, List.set_cons_succ]
          refine passed 17 rfl (by kernel_rfl) (by kernel_rfl) (by kernel_rfl) (by kernel_rfl) (fun _ _ _ h => h) (by rfl) (by assumption) ?_
          try simp only [Act.put, List.setIfInBounds_toArray, List.set_cons_zero, List.set_cons_succ]
          refine passed 18 rfl (by kernel_rfl) (by kernel_rfl) (by kernel_rfl) (by kernel_rfl) (fun _ _ _ h => h) (by rfl) (by assumption) ?_
          try simp only [Act.put, List.setIfInBounds_toArray, List.set_cons_zero, List.set_cons_succ]
          refine took 19 (v := ?_) rfl (by kernel_rfl) (by kernel_rfl) (by kernel_rfl) (by kernel_rfl) (fun _ _ _ h => h) (by rfl) (by assumption) ?_ ?_
          rotate_left
          · (intro W hSw; (try dsimp only at hSw); go_simp; first | done | with_reducible rfl)
          try simp only [Act.put, List.setIfInBounds_toArray, List.set_cons_zero, List.set_cons_succ]
          refine took 20 (v := ?_) rfl (by kernel_rfl) (by kernel_rfl) (by kernel_rfl) (by kernel_rfl) (fun _ _ _ h => h) (by rfl) (by assumption) ?_ ?_
          rotate_left
          · (intro W hSw; (try dsimp only at hSw); go_simp; first | done | with_reducible rfl)
          try simp only [Act.put, List.setIfInBounds_toArray, List.set_cons_zero, List.set_cons_succ]
          refine allDone (by kernel_rfl) ?_ _
          clear hHeld c1
          go_wp2_with fail
          go_roundw
          case rel => exact ⟨k + 1, y, by go_num, by omega, HD.out.drew, (by have := hd; simp at this; unfold Hid; omega), fun h => by omega, Hnext, Hm.out⟩
          case measure => simp [intOf]; omega
        · obtain ⟨p, hp⟩ : ∃ p, k = p + 1 := ⟨k - 1, by omega⟩
          have c2 := CP.out p hp
          have hsub : IntKind.i64.wrap ((k : Int) - 1) = (p : Int) := by rw [IntKind.wrap_i64]; omega
          have hp0 : (0 : Int) ≤ (p : Int) := by omega
          have hpn : (p : Int) < (n : Int) := by omega
          have hd0 : decide ((0 : Int) < (k : Int)) = true := by simpa using h0
          have hd0' : decide (0 < k) = true := by simpa using h0
          replace hp := Lib.hid hp
          by_cases hy : was < y
          · have Hm := Lib.hid (Hgood.out hy)
            have hd2 : decide (y ≤ was) = false := by rw [decide_eq_false_iff_not]; omega
            have Hy0 : Hid (-1 ≤ y) := by unfold Hid; omega
            clear hneg hy
            go_wp2_with fail
            refine region_E 21 (fun W => W.cell? (ad.add k) = some (.int .i64 y) ∧ W.cell? (ad.add p) = some (.int .i64 was)) (by kernel_rfl) ⟨c1, c2⟩ (fun hHeld => ?_)
            refine took 0 (v := ?_) rfl (by kernel_rfl) (by kernel_rfl) (by kernel_rfl) (by kernel_rfl) (fun _ _ _ h => h) (by rfl) (by assumption) ?_ ?_
            rotate_left
            · (intro W hSw; (try dsimp only at hSw); go_simp; first | done | with_reducible rfl)
            try simp only [Act.put, List.setIfInBounds_toArray, List.set_cons_zero, List.set_cons_succ]
            refine took 1 (v := ?_) rfl (by kernel_rfl) (by kernel_rfl) (by kernel_rfl) (by kernel_rfl) (fun _ _ _ h => h) (by rfl) (by assumption) ?_ ?_
            rotate_left
            · (intro W hSw; (try dsimp only at hSw); go_simp; first | done | with_reducible rfl)
            try simp only [Act.put, List.setIfInBounds_toArray, List.set_cons_zero, List.set_cons_succ]
            refine took 2 (v := ?_) rfl (by kernel_rfl) (by kernel_rfl) (by kernel_rfl) (by kernel_rfl) (fun _ _ _ h => h) (by rfl) (by assumption) ?_ ?_
            rotate_left
            · (intro W hSw; (try dsimp only at hSw); go_simp; first | done | with_reducible rfl)
            try simp only [Act.put, List.setIfInBounds_toArray, List.set_cons_zero, List.set_cons_succ]
            refine took 3 (v := ?_) rfl (by kernel_rfl) (by kernel_rfl) (by kernel_rfl) (by kernel_rfl) (fun _ _ _ h => h) (by rfl) (by assumption) ?_ ?_
            rotate_left
            · (intro W hSw; (try dsimp only at hSw); go_simp; first | done | with_reducible rfl)
            try simp only [Act.put, List.setIfInBounds_toArray, List.set_cons_zero, List.set_cons_succ]
            refine took 4 (v := ?_) rfl (by kernel_rfl) (by kernel_rfl) (by kernel_rfl) (by kernel_rfl) (fun _ _ _ h => h) (by rfl) (by assumption) ?_ ?_
            rotate_left
            · (intro W hSw; (try dsimp only at hSw); go_simp; first | done | with_reducible rfl)
            try simp only [Act.put, List.setIfInBounds_toArray, List.set_cons_zero, List.set_cons_succ]
            refine took 5 (v := ?_) rfl (by kernel_rfl) (by kernel_rfl) (by kernel_rfl) (by kernel_rfl) (fun _ _ _ h => h) (by rfl) (by assumption) ?_ ?_
            rotate_left
            · (intro W hSw; (try dsimp only at hSw); go_simp; first | done | with_reducible rfl)
            try simp only [Act.put, List.setIfInBounds_toArray, List.set_cons_zero, List.set_cons_succ]
            refine took 6 (v := ?_) rfl (by kernel_rfl) (by kernel_rfl) (by kernel_rfl) (by kernel_rfl) (fun _ _ _ h => h) (by rfl) (by assumption) ?_ ?_
            rotate_left
            · (intro W hSw; (try dsimp only at hSw); go_simp; first | done | with_reducible rfl)
            try simp only [Act.put, List.setIfInBounds_toArray, List.set_cons_zero, List.set_cons_succ]
            refine took 7 (v := ?_) rfl (by kernel_rfl) (by kernel_rfl) (by kernel_rfl) (by kernel_rfl) (fun _ _ _ h => h) (by rfl) (by assumption) ?_ ?_
            rotate_left
            · (intro W hSw; (try dsimp only at hSw); go_simp; first | done | with_reducible rfl)
            try simp only [Act.put, List.setIfInBounds_toArray, List.set_cons_zero, List.set_cons_succ]
            refine took 8 (v := ?_) rfl (by kernel_rfl) (by kernel_rfl) (by kernel_rfl) (by kernel_rfl) (fun _ _ _ h => h) (by rfl) (by assumption) ?_ ?_
            rotate_left
            · (intro W hSw; (try dsimp only at hSw); go_simp; first | done | with_reducible rfl)
            try simp only [Act.put, List.setIfInBounds_toArray, List.set_cons_zero, List.set_cons_succ]
            refine took 9 (v := ?_) rfl (by kernel_rfl) (by kernel_rfl) (by kernel_rfl) (by kernel_rfl) (fun _ _ _ h => h) (by rfl) (by assumption) ?_ ?_
            rotate_left
            · (intro W hSw; (try dsimp only at hSw); go_simp; first | done | with_reducible rfl)
            try simp only [Act.put, List.setIfInBounds_toArray, List.set_cons_zero, List.set_cons_succ]
            refine took 10 (v := ?_) rfl (by kernel_rfl) (by kernel_rfl) (by kernel_rfl) (by kernel_rfl) (fun _ _ _ h => h) (by rfl) (by assumption) ?_ ?_
            rotate_left
            · (intro W hSw; (try dsimp only at hSw); go_simp; first | done | with_reducible rfl)
            try simp only [Act.put, List.setIfInBounds_toArray, List.set_cons_zero, List.set_cons_succ]
            refine took 11 (v := ?_) rfl (by kernel_rfl) (by kernel_rfl) (by kernel_rfl) (by kernel_rfl) (fun _ _ _ h => h) (by rfl) (by assumption) ?_ ?_
            rotate_left
            · (intro W hSw; (try dsimp only at hSw); go_simp; first | done | with_reducible rfl)
            try simp only [Act.put, List.setIfInBounds_toArray, List.set_cons_zero, List.set_cons_succ]
            refine took 12 (v := ?_) rfl (by kernel_rfl) (by kernel_rfl) (by kernel_rfl) (by kernel_rfl) (fun _ _ _ h => h) (by rfl) (by assumption) ?_ ?_
            rotate_left
            · (intro W hSw; (try dsimp only at hSw); go_simp; first | done | with_reducible rfl)
            try simp only [Act.put, List.setIfInBounds_toArray, List.set_cons_zero, List.set_cons_succ]
            refine took 13 (v := ?_) rfl (by kernel_rfl) (by kernel_rfl) (by kernel_rfl) (by kernel_rfl) (fun _ _ _ h => h) (by rfl) (by assumption) ?_ ?_
            rotate_left
            · (intro W hSw; (try dsimp only at hSw); go_simp; first | done | with_reducible rfl)
            try simp only [Act.put, List.setIfInBounds_toArray, List.set_cons_zero, List.set_cons_succ]
            refine took 14 (v := ?_) rfl (by kernel_rfl) (by kernel_rfl) (by kernel_rfl) (by kernel_rfl) (fun _ _ _ h => h) (by rfl) (by assumption) ?_ ?_
            rotate_left
            · (intro W hSw; (try dsimp only at hSw); go_simp; first | done | with_reducible rfl)
            try simp only [Act.put, List.setIfInBounds_toArray, List.set_cons_zero, List.set_cons_succ]
            refine took 15 (v := ?_) rfl (by kernel_rfl) (by kernel_rfl) (by kernel_rfl) (by kernel_rfl) (fun _ _ _ h => h) (by rfl) (by assumption) ?_ ?_
            rotate_left
            · (intro W hSw; (try dsimp only at hSw); go_simp; first | done | with_reducible rfl)
            try simp only [Act.put, List.setIfInBounds_toArray, List.set_cons_zero, List.set_cons_succ]
            refine took 16 (v := ?_) rfl (by kernel_rfl) (by kernel_rfl) (by kernel_rfl) (by kernel_rfl) (fun _ _ _ h => h) (by rfl) (by assumption) ?_ ?_
            rotate_left
            · (intro W hSw; (try dsimp only at hSw); go_simp; first | done | with_reducible rfl)
            try simp only [Act.put, List.setIfInBounds_toArray, List.set_cons_zero, List.set_cons_succ]
            refine took 17 (v := ?_) rfl (by kernel_rfl) (by kernel_rfl) (by kernel_rfl) (by kernel_rfl) (fun _ _ _ h => h) (by rfl) (by assumption) ?_ ?_
            rotate_left
            · (intro W hSw; (try dsimp only at hSw); go_simp; first | done | with_reducible rfl)
            try simp only [Act.put, List.setIfInBounds_toArray, List.set_cons_zero, List.set_cons_succ]
            refine took 18 (v := ?_) rfl (by kernel_rfl) (by kernel_rfl) (by kernel_rfl) (by kernel_rfl) (fun _ _ _ h => h) (by rfl) (by assumption) ?_ ?_
            rotate_left
            · (intro W hSw; (try dsimp only at hSw); go_simp; first | done | with_reducible rfl)
            try simp only [Act.put, List.setIfInBounds_toArray, List.set_cons_zero, List.set_cons_succ]
            refine took 19 (v := ?_) rfl (by kernel_rfl) (by kernel_rfl) (by kernel_rfl) (by kernel_rfl) (fun _ _ _ h => h) (by rfl) (by assumption) ?_ ?_
            rotate_left
            · (intro W hSw; (try dsimp only at hSw); go_simp; first | done | with_reducible rfl)
            try simp only [Act.put, List.setIfInBounds_toArray, List.set_cons_zero, List.set_cons_succ]
            refine took 20 (v := ?_) rfl (by kernel_rfl) (by kernel_rfl) (by kernel_rfl) (by kernel_rfl) (fun _ _ _ h => h) (by rfl) (by assumption) ?_ ?_
            rotate_left
            · (intro W hSw; (try dsimp only at hSw); go_simp; first | done | with_reducible rfl)
            try simp only [Act.put, List.setIfInBounds_toArray, List.set_cons_zero, List.set_cons_succ]
            refine allDone (by kernel_rfl) ?_ _
            clear hHeld c1 c2 hsub
            go_wp2_with fail
            go_roundw
            case rel => exact ⟨k + 1, y, by go_num, by omega, HD.out.drew, Hy0, fun h => by omega, Hnext, Hm.out⟩
            case measure => simp [intOf]; omega
          · have Hm := Lib.hid (Hbad.out hy)
            have hd2 : decide (y ≤ was) = true := by rw [decide_eq_true_eq]; omega
            clear hneg hy
            go_wp2_with fail
            refine region_E 21 (fun W => W.cell? (ad.add k) = some (.int .i64 y) ∧ W.cell? (ad.add p) = some (.int .i64 was)) (by kernel_rfl) ⟨c1, c2⟩ (fun hHeld => ?_)
            refine took 0 (v := ?_) rfl (by kernel_rfl) (by kernel_rfl) (by kernel_rfl) (by kernel_rfl) (fun _ _ _ h => h) (by rfl) (by assumption) ?_ ?_
            rotate_left
            · (intro W hSw; (try dsimp only at hSw); go_simp; first | done | with_reducible rfl)
            try simp only [Act.put, List.setIfInBounds_toArray, List.set_cons_zero, List.set_cons_succ]
            refine took 1 (v := ?_) rfl (by kernel_rfl) (by kernel_rfl) (by kernel_rfl) (by kernel_rfl) (fun _ _ _ h => h) (by rfl) (by assumption) ?_ ?_
            rotate_left
            · (intro W hSw; (try dsimp only at hSw); go_simp; first | done | with_reducible rfl)
            try simp only [Act.put, List.setIfInBounds_toArray, List.set_cons_zero, List.set_cons_succ]
            refine took 2 (v := ?_) rfl (by kernel_rfl) (by kernel_rfl) (by kernel_rfl) (by kernel_rfl) (fun _ _ _ h => h) (by rfl) (by assumption) ?_ ?_
            rotate_left
            · (intro W hSw; (try dsimp only at hSw); go_simp; first | done | with_reducible rfl)
            try simp only [Act.put, List.setIfInBounds_toArray, List.set_cons_zero, List.set_cons_succ]
            refine took 3 (v := ?_) rfl (by kernel_rfl) (by kernel_rfl) (by kernel_rfl) (by kernel_rfl) (fun _ _ _ h => h) (by rfl) (by assumption) ?_ ?_
            rotate_left
            · (intro W hSw; (try dsimp only at hSw); go_simp; first | done | with_reducible rfl)
            try simp only [Act.put, List.setIfInBounds_toArray, List.set_cons_zero, List.set_cons_succ]
            refine took 4 (v := ?_) rfl (by kernel_rfl) (by kernel_rfl) (by kernel_rfl) (by kernel_rfl) (fun _ _ _ h => h) (by rfl) (by assumption) ?_ ?_
            rotate_left
            · (intro W hSw; (try dsimp only at hSw); go_simp; first | done | with_reducible rfl)
            try simp only [Act.put, List.setIfInBounds_toArray, List.set_cons_zero, List.set_cons_succ]
            refine took 5 (v := ?_) rfl (by kernel_rfl) (by kernel_rfl) (by kernel_rfl) (by kernel_rfl) (fun _ _ _ h => h) (by rfl) (by assumption) ?_ ?_
            rotate_left
            · (intro W hSw; (try dsimp only at hSw); go_simp; first | done | with_reducible rfl)
            try simp only [Act.put, List.setIfInBounds_toArray, List.set_cons_zero, List.set_cons_succ]
            refine took 6 (v := ?_) rfl (by kernel_rfl) (by kernel_rfl) (by kernel_rfl) (by kernel_rfl) (fun _ _ _ h => h) (by rfl) (by assumption) ?_ ?_
            rotate_left
            · (intro W hSw; (try dsimp only at hSw); go_simp; first | done | with_reducible rfl)
            try simp only [Act.put, List.setIfInBounds_toArray, List.set_cons_zero, List.set_cons_succ]
            refine took 7 (v := ?_) rfl (by kernel_rfl) (by kernel_rfl) (by kernel_rfl) (by kernel_rfl) (fun _ _ _ h => h) (by rfl) (by assumption) ?_ ?_
            rotate_left
            · (intro W hSw; (try dsimp only at hSw); go_simp; first | done | with_reducible rfl)
            try simp only [Act.put, List.setIfInBounds_toArray, List.set_cons_zero, List.set_cons_succ]
            refine took 8 (v := ?_) rfl (by kernel_rfl) (by kernel_rfl) (by kernel_rfl) (by kernel_rfl) (fun _ _ _ h => h) (by rfl) (by assumption) ?_ ?_
            rotate_left
            · (intro W hSw; (try dsimp only at hSw); go_simp; first | done | with_reducible rfl)
            try simp only [Act.put, List.setIfInBounds_toArray, List.set_cons_zero, List.set_cons_succ]
            refine took 9 (v := ?_) rfl (by kernel_rfl) (by kernel_rfl) (by kernel_rfl) (by kernel_rfl) (fun _ _ _ h => h) (by rfl) (by assumption) ?_ ?_
            rotate_left
            · (intro W hSw; (try dsimp only at hSw); go_simp; first | done | with_reducible rfl)
            try simp only [Act.put, List.setIfInBounds_toArray, List.set_cons_zero, List.set_cons_succ]
            refine took 10 (v := ?_) rfl (by kernel_rfl) (by kernel_rfl) (by kernel_rfl) (by kernel_rfl) (fun _ _ _ h => h) (by rfl) (by assumption) ?_ ?_
            rotate_left
            · (intro W hSw; (try dsimp only at hSw); go_simp; first | done | with_reducible rfl)
            try simp only [Act.put, List.setIfInBounds_toArray, List.set_cons_zero, List.set_cons_succ]
            refine took 11 (v := ?_) rfl (by kernel_rfl) (by kernel_rfl) (by kernel_rfl) (by kernel_rfl) (fun _ _ _ h => h) (by rfl) (by assumption) ?_ ?_
            rotate_left
            · (intro W hSw; (try dsimp only at hSw); go_simp; first | done | with_reducible rfl)
            try simp only [Act.put, List.setIfInBounds_toArray, List.set_cons_zero, List.set_cons_succ]
            refine took 12 (v := ?_) rfl (by kernel_rfl) (by kernel_rfl) (by kernel_rfl) (by kernel_rfl) (fun _ _ _ h => h) (by rfl) (by assumption) ?_ ?_
            rotate_left
            · (intro W hSw; (try dsimp only at hSw); go_simp; first | done | with_reducible rfl)
            try simp only [Act.put, List.setIfInBounds_toArray, List.set_cons_zero, List.set_cons_succ]
            refine took 13 (v := ?_) rfl (by kernel_rfl) (by kernel_rfl) (by kernel_rfl) (by kernel_rfl) (fun _ _ _ h => h) (by rfl) (by assumption) ?_ ?_
            rotate_left
            · (intro W hSw; (try dsimp only at hSw); go_simp; first | done | with_reducible rfl)
            try simp only [Act.put, List.setIfInBounds_toArray, List.set_cons_zero, List.set_cons_succ]
            refine took 14 (v := ?_) rfl (by kernel_rfl) (by kernel_rfl) (by kernel_rfl) (by kernel_rfl) (fun _ _ _ h => h) (by rfl) (by assumption) ?_ ?_
            rotate_left
            · (intro W hSw; (try dsimp only at hSw); go_simp; first | done | with_reducible rfl)
            try simp only [Act.put, List.setIfInBounds_toArray, List.set_cons_zero, List.set_cons_succ]
            refine took 15 (v := ?_) rfl (by kernel_rfl) (by kernel_rfl) (by kernel_rfl) (by kernel_rfl) (fun _ _ _ h => h) (by rfl) (by assumption) ?_ ?_
            rotate_left
            · (intro W hSw; (try dsimp only at hSw); go_simp; first | done | with_reducible rfl)
            try simp only [Act.put, List.setIfInBounds_toArray, List.set_cons_zero, List.set_cons_succ]
            refine took 16 (v := ?_) rfl (by kernel_rfl) (by kernel_rfl) (by kernel_rfl) (by kernel_rfl) (fun _ _ _ h => h) (by rfl) (by assumption) ?_ ?_
            rotate_left
            · (intro W hSw; (try dsimp only at hSw); go_simp; first | done | with_reducible rfl)
            try simp only [Act.put, List.setIfInBounds_toArray, List.set_cons_zero, List.set_cons_succ]
            refine took 17 (v := ?_) rfl (by kernel_rfl) (by kernel_rfl) (by kernel_rfl) (by kernel_rfl) (fun _ _ _ h => h) (by rfl) (by assumption) ?_ ?_
            rotate_left
            · (intro W hSw; (try dsimp only at hSw); go_simp; first | done | with_reducible rfl)
            try simp only [Act.put, List.setIfInBounds_toArray, List.set_cons_zero, List.set_cons_succ]
            refine took 18 (v := ?_) rfl (by kernel_rfl) (by kernel_rfl) (by kernel_rfl) (by kernel_rfl) (fun _ _ _ h => h) (by rfl) (by assumption) ?_ ?_
            rotate_left
            · (intro W hSw; (try dsimp only at hSw); go_simp; first | done | with_reducible rfl)
            try simp only [Act.put, List.setIfInBounds_toArray, List.set_cons_zero, List.set_cons_succ]
            refine took 19 (v := ?_) rfl (by kernel_rfl) (by kernel_rfl) (by kernel_rfl) (by kernel_rfl) (fun _ _ _ h => h) (by rfl) (by assumption) ?_ ?_
            rotate_left
            · (intro W hSw; (try dsimp only at hSw); go_simp; first | done | with_reducible rfl)
            try simp only [Act.put, List.setIfInBounds_toArray, List.set_cons_zero, List.set_cons_succ]
            refine took 20 (v := ?_) rfl (by kernel_rfl) (by kernel_rfl) (by kernel_rfl) (by kernel_rfl) (fun _ _ _ h => h) (by rfl) (by assumption) ?_ ?_
            rotate_left
            · (intro W hSw; (try dsimp only at hSw); go_simp; first | done | with_reducible rfl)
            try simp only [Act.put, List.setIfInBounds_toArray, List.set_cons_zero, List.set_cons_succ]
            refine allDone (by kernel_rfl) ?_ _
            clear hHeld c1 c2 hsub
            go_wp2_with fail
            go_ret
            exact ⟨ret_bool Hm.out.symm, HD.out.drew⟩
    · have hkn : k = n := by omega
      have Hg3 : Hid (Setp.may xs = true) := by
        rw [← Hg.out, List.drop_of_length_le (by rw [L.out]; omega)]; rfl
      have hge : (n : Int) ≤ k := by omega
      go_wp2_with fail
      go_ret
      exact ⟨ret_bool (by rw [Hg3.out]), HD.out⟩

set_option maxRecDepth 100000 in
set_option maxHeartbeats 1000000 in
theorem refHas_any (A : Option Addr) (n c B : Nat) (xs : List Int) (x : Int) (w : World) (h : Reads w B 1 A n (xs.map I64)) (hn : n < 4294967296) :
    Calls Try.prog 25 #[.slice A n c, .int .i64 x] w fun e w' => e = .returned (.bool (decide (x ∈ xs))) ∧ w = w' := by
  have hl : xs.length = n := by have := h.1; simpa using this
  have H := Lib.hid h
  have L := Lib.hid hl
  clear h hl
  go_enter Try.func25, Try.ntmps25
  go_wp2_with fail
  go_loop [5] (fun v5 => ∃ (k : Nat), v5 = .int .i64 k ∧ k ≤ n ∧ Hid (x ∉ xs.take k)) (fun v5 => n - (intOf v5).toNat)
  case atStart => exact ⟨0, rfl, by omega, by simp [Hid]⟩
  case round =>
    obtain ⟨k, rfl, hk, Hg⟩ := hrel
    by_cases hlt : k < n
    · have hlt' : (k : Int) < n := by omega
      obtain ⟨ad, rfl, hcell⟩ := ints_cells H.out (by omega)
      have hkx : k < xs.length := by rw [L.out]; exact hlt
      have c1 := hcell k hkx
      have Hmem : Hid (xs[k] ∈ xs) := List.getElem_mem hkx
      have Hstep : Hid (xs[k] ≠ x → x ∉ xs.take (k + 1)) := fun hne hm => by
        rw [List.take_succ_eq_append_getElem hkx] at hm
        rcases List.mem_append.1 hm with h | h
        · exact Hg.out h
        · exact hne (List.mem_singleton.1 h).symm
      clear hcell
      generalize xs[k] = y at *
      by_cases hy : y = x
      · have hyb : ((y : Int) == x) = true := by rw [beq_iff_eq]; exact hy
        have Ht : Hid (decide (x ∈ xs) = true) := by rw [← hy]; simp [Hid, Hmem.out]
        replace hy := Lib.hid hy
        go_wp2_with fail
        go_ret
        exact ⟨ret_bool (by rw [Ht.out]), rfl⟩
      · have hyb : ((y : Int) == x) = false := by rw [beq_eq_false_iff_ne]; exact hy
        have Hs := Lib.hid (Hstep.out hy)
        replace hy := Lib.hid hy
        go_wp2_with fail
        go_round
        case rel => exact ⟨k + 1, by go_num, by omega, Hs⟩
        case measure => simp [intOf]; omega
    · have hge : (n : Int) ≤ k := by omega
      have Ht : Hid (decide (x ∈ xs) = false) := by
        rw [Hid, decide_eq_false_iff_not]
        have := Hg.out
        rwa [List.take_of_length_le (by rw [L.out]; omega)] at this
      go_wp2_with fail
      go_ret
      exact ⟨ret_bool (by rw [Ht.out]), rfl⟩

/-- are all lists sets? -/
def allSets (xss : List (List Int)) : Bool := xss.all Setp.may
theorem allSets_step (xss : List (List Int)) (k : Nat) (xs : List Int) (h : xss[k]? = some xs) : allSets (xss.drop k) = (Setp.may xs && allSets (xss.drop (k + 1))) := by
  obtain ⟨hk, e⟩ := List.getElem?_eq_some_iff.1 h
  rw [List.drop_eq_getElem_cons hk, e]; rfl
/-- lists short enough to reckon with -/
def Short (xss : List (List Int)) : Prop := ∀ xs ∈ xss, xs.length < 4294967296

set_option maxRecDepth 100000 in
set_option maxHeartbeats 1000000 in
theorem refAll_any (A : Option Addr) (n c B : Nat) (xss : List (List Int)) (w : World) (h : RowsI w B A n xss) (hn : n < 4294967296) (hs : Short xss) :
    Calls Try.prog 28 #[.slice A n c] w fun e w' => e = .returned (.bool (allSets xss)) ∧ Dr w w' := by
  have H := Lib.hid h
  have L := Lib.hid h.len
  have S := Lib.hid hs
  clear h hs
  go_enter Try.func28, Try.ntmps28
  go_wp2_with fail
  go_loopw [3] (fun v3 wr => ∃ (k : Nat), v3 = .int .i64 k ∧ k ≤ n ∧ Hid (Dr w wr) ∧ Hid (allSets (xss.drop k) = allSets xss)) (fun v3 _ => n - (intOf v3).toNat)
  case atStart => exact ⟨0, rfl, by omega, Dr.refl w, rfl⟩
  case round =>
    obtain ⟨k, rfl, hk, HD, Hg⟩ := hrel
    by_cases hlt : k < n
    · have hlt' : (k : Int) < n := by omega
      obtain ⟨ad, xs, Ai, ni, ci, rfl, hbl, hx, c1, hnc, hcm, hread⟩ := (H.out.dr HD.out).row hlt
      have Hs := Lib.hid (allSets_step xss k xs hx)
      have hni : xs.length = ni := by have := hread.1; simpa using this
      have M := Lib.hid (fun W hW => refMay_any Ai ni ci B xs W hW (by have := S.out xs (List.mem_of_getElem? hx); omega))
      replace hread := Lib.hid hread
      clear hx hni
      go_wp2_with fail
      refine (M.out _ hread.out).mono ?_; rintro e w1 ⟨rfl, hD1⟩
      replace hD1 := Lib.hid (HD.out.trans hD1)
      cases hm : Setp.may xs
      · have Hf : Hid (allSets xss = false) := by rw [← Hg.out, Hs.out, hm]; rfl
        clear hm
        go_wp2_with fail
        go_ret
        exact ⟨ret_bool Hf.out.symm, hD1.out⟩
      · have Hf : Hid (allSets (xss.drop (k + 1)) = allSets xss) := by rw [← Hg.out, Hs.out, hm]; rfl
        clear hm
        go_wp2_with fail
        go_roundw
        case rel => exact ⟨k + 1, by go_num, by omega, hD1, Hf⟩
        case measure => simp [intOf]; omega
    · have hge : (n : Int) ≤ k := by omega
      have Hf : Hid (allSets xss = true) := by rw [← Hg.out, List.drop_of_length_le (by rw [L.out]; omega)]; rfl
      go_wp2_with fail
      go_ret
      exact ⟨ret_bool Hf.out.symm, HD.out⟩

set_option maxRecDepth 100000 in
set_option maxHeartbeats 1000000 in
theorem sameI_any (A A' : Option Addr) (n c c' B : Nat) (xs : List Int) (w : World) (h : Reads w B 1 A n (xs.map I64)) (h' : Reads w B 1 A' n (xs.map I64)) (hn : n < 4294967296) :
    Calls Try.prog 14 #[.slice A n c, .slice A' n c'] w fun e w' => e = .returned (.bool true) ∧ Dr w w' := by
  have hl : xs.length = n := by have := h.1; simpa using this
  have H := Lib.hid h
  have H' := Lib.hid h'
  have L := Lib.hid hl
  clear h h' hl
  go_enter Try.func14, Try.ntmps14
  go_wp2_with fail
  go_loopw [5] (fun v5 wr => ∃ (k : Nat), v5 = .int .i64 k ∧ k ≤ n ∧ Hid (Dr w wr)) (fun v5 _ => n - (intOf v5).toNat)
  case atStart => exact ⟨0, rfl, by omega, Dr.refl w⟩
  case round =>
    obtain ⟨k, rfl, hk, HD⟩ := hrel
    by_cases hlt : k < n
    · have hlt' : (k : Int) < n := by omega
      obtain ⟨ad, rfl, hcell⟩ := ints_cells (HD.out.reads H.out) (by omega)
      obtain ⟨ad', rfl, hcell'⟩ := ints_cells (HD.out.reads H'.out) (by omega)
      have hkx : k < xs.length := by rw [L.out]; exact hlt
      have c1 := hcell k hkx
      have c2 := hcell' k hkx
      clear hcell hcell'
      generalize xs[k] = y at *
      go_wp2_with fail
      refine region_E 9 (fun W => W.cell? (ad.add k) = some (.int .i64 y) ∧ W.cell? (ad'.add k) = some (.int .i64 y)) (by kernel_rfl) ⟨c1, c2⟩ (fun hHeld => ?_)
      refine took 0 (v := ?_) rfl (by kernel_rfl) (by kernel_rfl) (by kernel_rfl) (by kernel_rfl) (fun _ _ _ h => h) (by rfl) (by assumption) ?_ ?_
      rotate_left
      · (intro W hSw; (try dsimp only at hSw); go_simp; first | done | with_reducible rfl)
      try simp only [Act.put, List.setIfInBounds_toArray, List.set_cons_zero, List.set_cons_succ]
      refine took 1 (v := ?_) rfl (by kernel_rfl) (by kernel_rfl) (by kernel_rfl) (by kernel_rfl) (fun _ _ _ h => h) (by rfl) (by assumption) ?_ ?_
      rotate_left
      · (intro W hSw; (try dsimp only at hSw); go_simp; first | done | with_reducible rfl)
      try simp only [Act.put, List.setIfInBounds_toArray, List.set_cons_zero, List.set_cons_succ]
      refine took 2 (v := ?_) rfl (by kernel_rfl) (by kernel_rfl) (by kernel_rfl) (by kernel_rfl) (fun _ _ _ h => h) (by rfl) (by assumption) ?_ ?_
      rotate_left
      · (intro W hSw; (try dsimp only at hSw); go_simp; first | done | with_reducible rfl)
      try simp only [Act.put, List.setIfInBounds_toArray, List.set_cons_zero, List.set_cons_succ]
      refine took 3 (v := ?_) rfl (by kernel_rfl) (by kernel_rfl) (by kernel_rfl) (by kernel_rfl) (fun _ _ _ h => h) (by rfl) (by assumption) ?_ ?_
      rotate_left
      · (intro W hSw; (try dsimp only at hSw); go_simp; first | done | with_reducible rfl)
      try simp only [Act.put, List.setIfInBounds_toArray, List.set_cons_zero, List.set_cons_succ]
      refine took 4 (v := ?_) rfl (by kernel_rfl) (by kernel_rfl) (by kernel_rfl) (by kernel_rfl) (fun _ _ _ h => h) (by rfl) (by assumption) ?_ ?_
      rotate_left
      · (intro W hSw; (try dsimp only at hSw); go_simp; first | done | with_reducible rfl)
      try simp only [Act.put, List.setIfInBounds_toArray, List.set_cons_zero, List.set_cons_succ]
      refine took 5 (v := ?_) rfl (by kernel_rfl) (by kernel_rfl) (by kernel_rfl) (by kernel_rfl) (fun _ _ _ h => h) (by rfl) (by assumption) ?_ ?_
      rotate_left
      · (intro W hSw; (try dsimp only at hSw); go_simp; first | done | with_reducible rfl)
      try simp only [Act.put, List.setIfInBounds_toArray, List.set_cons_zero, List.set_cons_succ]
      refine took 6 (v := ?_) rfl (by kernel_rfl) (by kernel_rfl) (by kernel_rfl) (by kernel_rfl) (fun _ _ _ h => h) (by rfl) (by assumption) ?_ ?_
      rotate_left
      · (intro W hSw; (try dsimp only at hSw); go_simp; first | done | with_reducible rfl)
      try simp only [Act.put, List.setIfInBounds_toArray, List.set_cons_zero, List.set_cons_succ]
      refine took 7 (v := ?_) rfl (by kernel_rfl) (by kernel_rfl) (by kernel_rfl) (by kernel_rfl) (fun _ _ _ h => h) (by rfl) (by assumption) ?_ ?_
      rotate_left
      · (intro W hSw; (try dsimp only at hSw); go_simp; first | done | with_reducible rfl)
      try simp only [Act.put, List.setIfInBounds_toArray, List.set_cons_zero, List.set_cons_succ]
      refine took 8 (v := ?_) rfl (by kernel_rfl) (by kernel_rfl) (by kernel_rfl) (by kernel_rfl) (fun _ _ _ h => h) (by rfl) (by assumption) ?_ ?_
      rotate_left
      · (intro W hSw; (try dsimp only at hSw); go_simp; first | done | with_reducible rfl)
      try simp only [Act.put, List.setIfInBounds_toArray, List.set_cons_zero, List.set_cons_succ]
      refine allDone (by kernel_rfl) ?_ _
      clear hHeld c1 c2
      go_wp2_with fail
      go_roundw
      case rel => exact ⟨k + 1, by go_num, by omega, HD.out.drew⟩
      case measure => simp [intOf]; omega
    · have hge : (n : Int) ≤ k := by omega
      go_wp2_with fail
      go_ret
      exact ⟨rfl, HD.out⟩

/-- are lists more than statements look at? -/
def greatI (xss : List (List Int)) : Bool := decide (12 < xss.length) || xss.any (fun xs => decide (60 < xs.length))
theorem any_step (xss : List (List Int)) (k : Nat) (xs : List Int) (h : xss[k]? = some xs) : (xss.drop k).any (fun xs => decide (60 < xs.length)) = (decide (60 < xs.length) || (xss.drop (k + 1)).any (fun xs => decide (60 < xs.length))) := by
  obtain ⟨hk, e⟩ := List.getElem?_eq_some_iff.1 h
  rw [List.drop_eq_getElem_cons hk, e]; rfl
theorem greatI_short {xss : List (List Int)} (h : greatI xss = false) : xss.length ≤ 12 ∧ ∀ xs ∈ xss, xs.length ≤ 60 := by
  unfold greatI at h
  simp only [Bool.or_eq_false_iff, decide_eq_false_iff_not, List.any_eq_false, decide_eq_true_eq] at h
  exact ⟨by omega, fun xs hx => by have := h.2 xs hx; omega⟩

set_option maxRecDepth 100000 in
set_option maxHeartbeats 1000000 in
theorem great_any (A : Option Addr) (n c B : Nat) (xss : List (List Int)) (w : World) (h : RowsI w B A n xss) :
    Calls Try.prog 11 #[.slice A n c] w fun e w' => e = .returned (.bool (greatI xss)) ∧ w = w' := by
  have H := Lib.hid h
  have L := Lib.hid h.len
  have hl := h.len
  unfold greatI
  by_cases h12 : 12 < n
  · have h12' : (12 : Int) < n := by omega
    have Hg : Hid ((decide (12 < xss.length) || xss.any (fun xs => decide (60 < xs.length))) = true) := by rw [Hid, hl]; simp [h12]
    clear h hl
    go_enter Try.func11, Try.ntmps11
    go_wp2_with fail
    go_ret
    exact ⟨ret_bool Hg.out.symm, rfl⟩
  have h12' : (n : Int) ≤ 12 := by omega
  have G0 : Hid ((decide (12 < xss.length) || xss.any (fun xs => decide (60 < xs.length))) = xss.any (fun xs => decide (60 < xs.length))) := by rw [Hid, hl]; simp [h12]
  clear h hl
  go_enter Try.func11, Try.ntmps11
  go_wp2_with fail
  go_loop [3] (fun v3 => ∃ (k : Nat), v3 = .int .i64 k ∧ k ≤ n ∧ Hid ((xss.drop k).any (fun xs => decide (60 < xs.length)) = xss.any (fun xs => decide (60 < xs.length)))) (fun v3 => n - (intOf v3).toNat)
  case atStart => exact ⟨0, rfl, by omega, rfl⟩
  case round =>
    obtain ⟨k, rfl, hk, Hg⟩ := hrel
    by_cases hlt : k < n
    · have hlt' : (k : Int) < n := by omega
      obtain ⟨ad, xs, Ai, ni, ci, rfl, hbl, hx, c1, hnc, hcm, hread⟩ := H.out.row hlt
      have Hs := Lib.hid (any_step xss k xs hx)
      have hni : xs.length = ni := by have := hread.1; simpa using this
      replace hni := Lib.hid hni
      clear hread hx
      by_cases h60 : 60 < ni
      · have h60' : (60 : Int) < ni := by omega
        have Hf : Hid (xss.any (fun xs => decide (60 < xs.length)) = true) := by rw [Hid, ← Hg.out, Hs.out, hni.out]; simp [h60]
        clear h60
        go_wp2_with fail
        go_ret
        exact ⟨ret_bool (by rw [G0.out, Hf.out]), rfl⟩
      · have h60' : (ni : Int) ≤ 60 := by omega
        have Hf : Hid ((xss.drop (k + 1)).any (fun xs => decide (60 < xs.length)) = xss.any (fun xs => decide (60 < xs.length))) := by rw [Hid, ← Hg.out, Hs.out, hni.out]; simp [h60]
        clear h60
        go_wp2_with fail
        go_round
        case rel => exact ⟨k + 1, by go_num, by omega, Hf⟩
        case measure => simp [intOf]; omega
    · have hge : (n : Int) ≤ k := by omega
      have Hf : Hid (xss.any (fun xs => decide (60 < xs.length)) = false) := by rw [← Hg.out, List.drop_of_length_le (by rw [L.out]; omega)]; rfl
      go_wp2_with fail
      go_ret
      exact ⟨ret_bool (by rw [G0.out, Hf.out]), rfl⟩
end Go.Proofs.Ytpgnaahfkcgflaa
