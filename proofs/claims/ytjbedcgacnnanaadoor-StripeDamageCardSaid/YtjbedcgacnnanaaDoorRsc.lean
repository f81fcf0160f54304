/-
  Are all as long as each other, the document's: walked.
-/
import Derived.Test.YtjbedcgacnnanaaDoorRsb
import Derived.Test.YtjbedcgacnnanaaDoorBa
namespace Go.Proofs.YtjbedcgacnnanaaDoor
set_option linter.unusedSimpArgs false
set_option linter.unusedVariables false
open Go.RowKit

set_option maxRecDepth 100000 in
theorem refAlike_any (A : Option Addr) (n c B : Nat) (xss : List (List UInt8)) (w : World) (h : Rows8 w B A n xss) (hn : n ≤ 100000) :
    Calls Tryd.prog 43 #[.slice A n c] w fun e w' => e = .returned (.bool (Rsp.alike xss)) ∧ Dr w w' := by
  have hl : xss.length = n := by obtain ⟨_, _, h2, _⟩ := h; exact h2
  have H := Lib.hid (fun k (hk : k < n) => h.rowl hk)
  have YES := Lib.hid (fun h => Rsp.alike_yes (l := xss) h)
  have NO := Lib.hid (fun i b hb h => Rsp.alike_no (l := xss) (i := i) (b := b) hb h)
  obtain ⟨L, hL⟩ : ∃ L, (xss.headD []).length = L := ⟨_, rfl⟩
  rw [hL] at YES NO
  have H0 : Hid (∀ x0, xss[0]? = some x0 → x0.length = L) := fun x0 hx => by
    rw [← hL]
    cases xss with
    | nil => simp at hx
    | cons a t => simp at hx; rw [hx]; rfl
  replace hL := Lib.hid hL
  have HL := Lib.hid hl
  obtain ⟨G, hG⟩ : ∃ G, Rsp.alike xss = G := ⟨_, rfl⟩
  rw [hG] at YES NO
  rw [hG]
  clear h hl hG
  go_enter Tryd.func43, Tryd.ntmps43
  go_wp2_with fail
  go_loopw [3] (fun v3 wr => ∃ i : Nat, v3 = .int .i64 i ∧ 1 ≤ i ∧ i ≤ n + 1 ∧ Hid (Dr w wr) ∧ Hid (∀ t b, t < i → xss[t]? = some b → b.length = L)) (fun v3 _ => n + 1 - (intOf v3).toNat)
  case atStart => exact ⟨1, rfl, by omega, by omega, Dr.refl w, fun t b ht hb => H0.out b (by rw [show t = 0 by omega] at hb; exact hb)⟩
  case round =>
    obtain ⟨i, rfl, hi1, hin, HD, HI⟩ := hrel
    by_cases hlt : i < n
    · have hlt' : (i : Int) < (n : Int) := by omega
      have hn0 : 0 < n := by omega
      have hn0' : (0 : Int) < (n : Int) := by omega
      obtain ⟨ad, x0, A0, c0, hA, hx0, e0⟩ := H.out 0 (by omega)
      subst hA
      obtain ⟨ad', xi, Ai, ci, hA', hxi, ei⟩ := H.out i hlt
      obtain rfl : ad = ad' := by injection hA'
      have hx0L := H0.out x0 hx0
      rw [hx0L] at e0
      have e0' : wr.cell? ad = some (.slice A0 L c0) := by
        obtain ⟨mm, hmm⟩ := HD.out
        rw [hmm]
        have : w.cell? ad = some (.slice A0 L c0) := by simpa [Addr.add] using e0
        exact this
      have ei' : wr.cell? (ad.add i) = some (.slice Ai xi.length ci) := by
        obtain ⟨mm, hmm⟩ := HD.out
        rw [hmm]; exact ei
      clear e0 hA' ei
      by_cases hxl : xi.length = L
      · have HI2 : Hid (∀ t b, t < i + 1 → xss[t]? = some b → b.length = L) := fun t b ht hb => by
          by_cases e : t = i
          · rw [e, hxi] at hb; injection hb with hb; rw [← hb]; exact hxl
          · exact HI.out t b (by omega) hb
        rw [hxl] at ei'
        replace hxl := Lib.hid hxl
        replace hx0L := Lib.hid hx0L
        go_wp2_with fail
        refine region_E 10 (fun W => W.cell? ad = some (.slice A0 L c0) ∧ W.cell? (ad.add i) = some (.slice Ai L ci)) (by kernel_rfl) ⟨e0', ei'⟩ (fun hHeld => ?_)
        refine took 0 (v := ?_) rfl (by kernel_rfl) (by kernel_rfl) (by kernel_rfl) (by kernel_rfl) (fun _ _ _ h => h) (by rfl) (by assumption) ?_ ?_
        rotate_left
        · (intro W hSw; (try dsimp only at hSw); go_simp; first | done | with_reducible rfl)
        try simp only [Act.put, List.setIfInBounds_toArray, List.set_cons_zero, List.set_cons_succ]
        refine took 1 (v := ?_) rfl (by kernel_rfl) (by kernel_rfl) (by kernel_rfl) (by kernel_rfl) (fun _ _ _ h => h) (by rfl) (by assumption) ?_ ?_
        rotate_left
        · (intro W hSw; (try dsimp only at hSw); go_simp; first | done | with_reducible rfl)
        try simp only [Act.put, List.setIfInBounds_toArray, List.set_cons_zero, List.set_cons_succ]
        refine took 2 (v := ?_) rfl (by kernel_rfl) (by kernel_rfl) (by kernel_rfl) (by kernel_rfl) (fun _ _ _ h => h) (by rfl) (by assumption) ?_ ?_
        rotate_left
        · (intro W hSw; (try dsimp only at hSw); go_simp; first | done | with_reducible rfl)
        try simp only [Act.put, List.setIfInBounds_toArray, List.set_cons_zero, List.set_cons_succ]
        refine took 3 (v := ?_) rfl (by kernel_rfl) (by kernel_rfl) (by kernel_rfl) (by kernel_rfl) (fun _ _ _ h => h) (by rfl) (by assumption) ?_ ?_
        rotate_left
        · (intro W hSw; (try dsimp only at hSw); go_simp; first | done | with_reducible rfl)
        try simp only [Act.put, List.setIfInBounds_toArray, List.set_cons_zero, List.set_cons_succ]
        refine took 4 (v := ?_) rfl (by kernel_rfl) (by kernel_rfl) (by kernel_rfl) (by kernel_rfl) (fun _ _ _ h => h) (by rfl) (by assumption) ?_ ?_
        rotate_left
        · (intro W hSw; (try dsimp only at hSw); go_simp; first | done | with_reducible rfl)
        try simp only [Act.put, List.setIfInBounds_toArray, List.set_cons_zero, List.set_cons_succ]
        refine took 5 (v := ?_) rfl (by kernel_rfl) (by kernel_rfl) (by kernel_rfl) (by kernel_rfl) (fun _ _ _ h => h) (by rfl) (by assumption) ?_ ?_
        rotate_left
        · (intro W hSw; (try dsimp only at hSw); go_simp; first | done | with_reducible rfl)
        try simp only [Act.put, List.setIfInBounds_toArray, List.set_cons_zero, List.set_cons_succ]
        refine took 6 (v := ?_) rfl (by kernel_rfl) (by kernel_rfl) (by kernel_rfl) (by kernel_rfl) (fun _ _ _ h => h) (by rfl) (by assumption) ?_ ?_
        rotate_left
        · (intro W hSw; (try dsimp only at hSw); go_simp; first | done | with_reducible rfl)
        try simp only [Act.put, List.setIfInBounds_toArray, List.set_cons_zero, List.set_cons_succ]
        refine took 7 (v := ?_) rfl (by kernel_rfl) (by kernel_rfl) (by kernel_rfl) (by kernel_rfl) (fun _ _ _ h => h) (by rfl) (by assumption) ?_ ?_
        rotate_left
        · (intro W hSw; (try dsimp only at hSw); go_simp; first | done | with_reducible rfl)
        try simp only [Act.put, List.setIfInBounds_toArray, List.set_cons_zero, List.set_cons_succ]
        refine took 8 (v := ?_) rfl (by kernel_rfl) (by kernel_rfl) (by kernel_rfl) (by kernel_rfl) (fun _ _ _ h => h) (by rfl) (by assumption) ?_ ?_
        rotate_left
        · (intro W hSw; (try dsimp only at hSw); go_simp; first | done | with_reducible rfl)
        try simp only [Act.put, List.setIfInBounds_toArray, List.set_cons_zero, List.set_cons_succ]
        refine took 9 (v := ?_) rfl (by kernel_rfl) (by kernel_rfl) (by kernel_rfl) (by kernel_rfl) (fun _ _ _ h => h) (by rfl) (by assumption) ?_ ?_
        rotate_left
        · (intro W hSw; (try dsimp only at hSw); go_simp; first | done | with_reducible rfl)
        try simp only [Act.put, List.setIfInBounds_toArray, List.set_cons_zero, List.set_cons_succ]
        refine allDone (by kernel_rfl) ?_ _
        clear hHeld
        go_wp2_with fail
        go_roundw
        case rel => exact ⟨i + 1, by go_num, by omega, by omega, HD.out.drewN 1, HI2⟩
        case measure => simp [intOf]; omega
      · have hg : Hid (G = false) := NO.out i xi hxi hxl
        have hne : ((xi.length : Int) == (L : Int)) = false := by simp; omega
        have hne2 : ((xi.length : Int) != (L : Int)) = true := by simp; omega
        replace hx0L := Lib.hid hx0L
        generalize xi.length = li at *
        go_wp2_with fail
        refine region_E 10 (fun W => W.cell? ad = some (.slice A0 L c0) ∧ W.cell? (ad.add i) = some (.slice Ai li ci)) (by kernel_rfl) ⟨e0', ei'⟩ (fun hHeld => ?_)
        refine took 0 (v := ?_) rfl (by kernel_rfl) (by kernel_rfl) (by kernel_rfl) (by kernel_rfl) (fun _ _ _ h => h) (by rfl) (by assumption) ?_ ?_
        rotate_left
        · (intro W hSw; (try dsimp only at hSw); go_simp; first | done | with_reducible rfl)
        try simp only [Act.put, List.setIfInBounds_toArray, List.set_cons_zero, List.set_cons_succ]
        refine took 1 (v := ?_) rfl (by kernel_rfl) (by kernel_rfl) (by kernel_rfl) (by kernel_rfl) (fun _ _ _ h => h) (by rfl) (by assumption) ?_ ?_
        rotate_left
        · (intro W hSw; (try dsimp only at hSw); go_simp; first | done | with_reducible rfl)
        try simp only [Act.put, List.setIfInBounds_toArray, List.set_cons_zero, List.set_cons_succ]
        refine took 2 (v := ?_) rfl (by kernel_rfl) (by kernel_rfl) (by kernel_rfl) (by kernel_rfl) (fun _ _ _ h => h) (by rfl) (by assumption) ?_ ?_
        rotate_left
        · (intro W hSw; (try dsimp only at hSw); go_simp; first | done | with_reducible rfl)
        try simp only [Act.put, List.setIfInBounds_toArray, List.set_cons_zero, List.set_cons_succ]
        refine took 3 (v := ?_) rfl (by kernel_rfl) (by kernel_rfl) (by kernel_rfl) (by kernel_rfl) (fun _ _ _ h => h) (by rfl) (by assumption) ?_ ?_
        rotate_left
        · (intro W hSw; (try dsimp only at hSw); go_simp; first | done | with_reducible rfl)
        try simp only [Act.put, List.setIfInBounds_toArray, List.set_cons_zero, List.set_cons_succ]
        refine took 4 (v := ?_) rfl (by kernel_rfl) (by kernel_rfl) (by kernel_rfl) (by kernel_rfl) (fun _ _ _ h => h) (by rfl) (by assumption) ?_ ?_
        rotate_left
        · (intro W hSw; (try dsimp only at hSw); go_simp; first | done | with_reducible rfl)
        try simp only [Act.put, List.setIfInBounds_toArray, List.set_cons_zero, List.set_cons_succ]
        refine took 5 (v := ?_) rfl (by kernel_rfl) (by kernel_rfl) (by kernel_rfl) (by kernel_rfl) (fun _ _ _ h => h) (by rfl) (by assumption) ?_ ?_
        rotate_left
        · (intro W hSw; (try dsimp only at hSw); go_simp; first | done | with_reducible rfl)
        try simp only [Act.put, List.setIfInBounds_toArray, List.set_cons_zero, List.set_cons_succ]
        refine took 6 (v := ?_) rfl (by kernel_rfl) (by kernel_rfl) (by kernel_rfl) (by kernel_rfl) (fun _ _ _ h => h) (by rfl) (by assumption) ?_ ?_
        rotate_left
        · (intro W hSw; (try dsimp only at hSw); go_simp; first | done | with_reducible rfl)
        try simp only [Act.put, List.setIfInBounds_toArray, List.set_cons_zero, List.set_cons_succ]
        refine took 7 (v := ?_) rfl (by kernel_rfl) (by kernel_rfl) (by kernel_rfl) (by kernel_rfl) (fun _ _ _ h => h) (by rfl) (by assumption) ?_ ?_
        rotate_left
        · (intro W hSw; (try dsimp only at hSw); go_simp; first | done | with_reducible rfl)
        try simp only [Act.put, List.setIfInBounds_toArray, List.set_cons_zero, List.set_cons_succ]
        refine took 8 (v := ?_) rfl (by kernel_rfl) (by kernel_rfl) (by kernel_rfl) (by kernel_rfl) (fun _ _ _ h => h) (by rfl) (by assumption) ?_ ?_
        rotate_left
        · (intro W hSw; (try dsimp only at hSw); go_simp; first | done | with_reducible rfl)
        try simp only [Act.put, List.setIfInBounds_toArray, List.set_cons_zero, List.set_cons_succ]
        refine took 9 (v := ?_) rfl (by kernel_rfl) (by kernel_rfl) (by kernel_rfl) (by kernel_rfl) (fun _ _ _ h => h) (by rfl) (by assumption) ?_ ?_
        rotate_left
        · (intro W hSw; (try dsimp only at hSw); go_simp; first | done | with_reducible rfl)
        try simp only [Act.put, List.setIfInBounds_toArray, List.set_cons_zero, List.set_cons_succ]
        refine allDone (by kernel_rfl) ?_ _
        clear hHeld
        go_wp2_with fail
        go_ret
        exact ⟨by rw [hg.out]; rfl, HD.out.drewN 1⟩
    · have hge : (n : Int) ≤ (i : Int) := by omega
      have hg : Hid (G = true) := YES.out (fun t b hb => HI.out t b (by have := (List.getElem?_eq_some_iff.1 hb).1; have := HL.out; omega) hb)
      go_wp2_with fail
      go_ret
      exact ⟨by rw [hg.out]; rfl, HD.out⟩
end Go.Proofs.YtjbedcgacnnanaaDoor
