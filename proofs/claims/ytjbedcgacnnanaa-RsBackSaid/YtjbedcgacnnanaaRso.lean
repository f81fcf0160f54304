/-
  Lists of bytes the same: slices.Equal, slices.EqualFunc, the document's Same; a list of lists cut.
-/
import Derived.Test.YtjbedcgacnnanaaRsi
namespace Go.Proofs.Ytjbedcgacnnanaa
set_option linter.unusedSimpArgs false
set_option linter.unusedVariables false
open Go.RowKit

set_option maxRecDepth 100000 in
theorem equal_any (A A' : Option Addr) (n n' c c' B B' : Nat) (xs ys : List UInt8) (w : World) (h1 : Reads w B 1 A n (xs.map B8)) (h2 : Reads w B' 1 A' n' (ys.map B8)) (hn : n ≤ 1000000000000) (hn' : n' ≤ 1000000000000) :
    Calls Try.prog 38 #[.slice A n c, .slice A' n' c'] w fun e w' => e = .returned (.bool (decide (xs = ys))) ∧ Dr w w' := by
  have l1 := h1.len
  have l2 := h2.len
  by_cases hnn : n = n'
  · subst hnn
    have H1 := Lib.hid h1
    have H2 := Lib.hid h2
    have L := Lib.hid (show xs.length = n ∧ ys.length = n from ⟨l1, l2⟩)
    clear h1 h2 l1 l2
    go_enter Try.func38, Try.ntmps38
    go_wp2_with fail
    go_loopw [13] (fun i wr => ∃ k : Nat, i = .int .i64 k ∧ k ≤ n ∧ Hid (Dr w wr) ∧ Hid (xs.take k = ys.take k)) (fun i _ => n - (intOf i).toNat)
    case atStart => exact ⟨0, rfl, by omega, Dr.refl w, rfl⟩
    case round =>
      obtain ⟨k, rfl, hk, HD, He⟩ := hrel
      by_cases hlt : k < n
      · obtain ⟨ad, x, rfl, hb, hx, hcx⟩ := (HD.out.reads H1.out).byte hlt
        obtain ⟨ad', y, rfl, hb', hy, hcy⟩ := (HD.out.reads H2.out).byte hlt
        have hlt' : (k : Int) < (n : Int) := by omega
        by_cases hxy : x = y
        · subst hxy
          have He2 : Hid (xs.take (k + 1) = ys.take (k + 1)) := by
            rw [List.take_add_one, List.take_add_one, He.out, hx, hy]; rfl
          clear hx hy hb hb'
          go_wp2_with fail
          go_quiet (fail)
          go_wp2_with fail
          go_roundw
          case rel => exact ⟨k + 1, by go_num, by omega, HD.out.drewN _, He2⟩
          case measure => simp [intOf]; omega
        · have hne : ((x.toNat : Int) != (y.toNat : Int)) = true := by
            rw [bne_iff_ne]
            intro h
            exact hxy (UInt8.toNat_inj.1 (by omega))
          have Hf : Hid (decide (xs = ys) = false) := by
            rw [Hid, decide_eq_false_iff_not]
            rintro rfl
            rw [hx] at hy
            injection hy with hy
            exact hxy hy
          clear hx hy hb hb' hxy
          go_wp2_with fail
          go_quiet (fail)
          go_wp2_with fail
          go_ret
          exact ⟨ret_bool Hf.out.symm, HD.out.drewN _⟩
      · obtain rfl : k = n := by omega
        have Hf : Hid (decide (xs = ys) = true) := by
          have h := He.out
          rw [List.take_of_length_le (by rw [L.out.1]; exact Nat.le_refl _), List.take_of_length_le (by rw [L.out.2]; exact Nat.le_refl _)] at h
          exact decide_eq_true h
        go_wp2_with fail
        go_ret
        exact ⟨ret_bool Hf.out.symm, HD.out⟩
  · have he : ((n : Int) != (n' : Int)) = true := by rw [bne_iff_ne]; omega
    have Hf : Hid (decide (xs = ys) = false) := by
      rw [Hid, decide_eq_false_iff_not]
      rintro rfl
      omega
    clear hnn h1 h2 l1 l2
    go_enter Try.func38, Try.ntmps38
    go_wp2_with fail
    go_ret
    exact ⟨ret_bool Hf.out.symm, Dr.refl w⟩

theorem lists_take {xss yss : List (List UInt8)} {k : Nat} {x y : List UInt8} (h : xss.take k = yss.take k) (hx : xss[k]? = some x) (hy : yss[k]? = some y) (e : x = y) : xss.take (k + 1) = yss.take (k + 1) := by
  rw [List.take_add_one, List.take_add_one, h, hx, hy, e]
theorem lists_ne {xss yss : List (List UInt8)} {k : Nat} {x y : List UInt8} (hx : xss[k]? = some x) (hy : yss[k]? = some y) (e : x ≠ y) : decide (xss = yss) = false := by
  rw [decide_eq_false_iff_not]
  rintro rfl
  rw [hx] at hy
  injection hy with hy
  exact e hy
theorem lists_eq {xss yss : List (List UInt8)} {k : Nat} (h : xss.take k = yss.take k) (h1 : xss.length = k) (h2 : yss.length = k) : decide (xss = yss) = true := by
  rw [List.take_of_length_le (by omega), List.take_of_length_le (by omega)] at h
  exact decide_eq_true h
theorem lists_len {xss yss : List (List UInt8)} (h : xss.length ≠ yss.length) : decide (xss = yss) = false := by
  rw [decide_eq_false_iff_not]
  rintro rfl
  exact h rfl
theorem Rows8.len {w : World} {B n : Nat} {A : Option Addr} {xss : List (List UInt8)} (h : Rows8 w B A n xss) : xss.length = n := by obtain ⟨_, _, h2, _⟩ := h; exact h2
theorem Dr.rows8 {a w : World} (h : Dr a w) {B n : Nat} {A : Option Addr} {xss : List (List UInt8)} (r : Rows8 a B A n xss) : Rows8 w B A n xss := r.below (h.below B)

set_option maxRecDepth 100000 in
set_option maxHeartbeats 2000000 in
theorem equalFunc_any (A A' : Option Addr) (n n' c c' B B' : Nat) (xss yss : List (List UInt8)) (w : World) (h1 : Rows8 w B A n xss) (h2 : Rows8 w B' A' n' yss) (hn : n ≤ 1000000) (hL : ∀ x ∈ xss, x.length ≤ 1000000) (hL' : ∀ x ∈ yss, x.length ≤ 1000000) :
    Calls Try.prog 37 #[.slice A n c, .slice A' n' c', .func (.func 38) #[] #[]] w fun e w' => e = .returned (.bool (decide (xss = yss))) ∧ Dr w w' := by
  have l1 := h1.len
  have l2 := h2.len
  by_cases hnn : n = n'
  · subst hnn
    have H1 := Lib.hid (fun W (hW : Dr w W) (k : Nat) (hk : k < n) => (hW.rows8 h1).rowr hk)
    have H2 := Lib.hid (fun W (hW : Dr w W) (k : Nat) (hk : k < n) => (hW.rows8 h2).rowr hk)
    have L := Lib.hid (show xss.length = n ∧ yss.length = n from ⟨l1, l2⟩)
    have LX := Lib.hid hL
    have LY := Lib.hid hL'
    clear h1 h2 l1 l2 hL hL'
    go_enter Try.func37, Try.ntmps37
    go_wp2_with fail
    go_loopw [17] (fun i wr => ∃ k : Nat, i = .int .i64 k ∧ k ≤ n ∧ Hid (Dr w wr) ∧ Hid (xss.take k = yss.take k)) (fun i _ => n - (intOf i).toNat)
    case atStart => exact ⟨0, rfl, by omega, Dr.refl w, rfl⟩
    case round =>
      obtain ⟨k, rfl, hk, HD, He⟩ := hrel
      by_cases hlt : k < n
      · obtain ⟨ad, x, Ax, cx, rfl, hx, hcx, -, -, hrx⟩ := H1.out wr HD.out k hlt
        obtain ⟨ad', y, Ay, cy, rfl, hy, hcy, -, -, hry⟩ := H2.out wr HD.out k hlt
        have hlt' : (k : Int) < (n : Int) := by omega
        have KE := Lib.hid (equal_any Ax Ay x.length y.length cx cy _ _ x y wr hrx hry (by have := LX.out x (List.mem_of_getElem? hx); omega) (by have := LY.out y (List.mem_of_getElem? hy); omega))
        generalize x.length = lx at *
        generalize y.length = ly at *
        by_cases hxy : x = y
        · have He2 := Lib.hid (lists_take He.out hx hy hxy)
          rw [decide_eq_true hxy] at KE
          clear hx hy hrx hry hxy
          go_wp2_with fail
          refine KE.out.mono ?_; rintro e w2 ⟨rfl, hD2⟩
          have HD2 := Lib.hid (HD.out.trans hD2)
          clear hD2 KE hcx hcy
          go_wp2_with fail
          go_roundw
          case rel => exact ⟨k + 1, by go_num, by omega, HD2, He2⟩
          case measure => simp [intOf]; omega
        · have Hf := Lib.hid (lists_ne hx hy hxy)
          rw [decide_eq_false hxy] at KE
          clear hx hy hrx hry hxy
          go_wp2_with fail
          refine KE.out.mono ?_; rintro e w2 ⟨rfl, hD2⟩
          have HD2 := Lib.hid (HD.out.trans hD2)
          clear hD2 KE hcx hcy
          go_wp2_with fail
          go_ret
          exact ⟨ret_bool Hf.out.symm, HD2.out⟩
      · obtain rfl : k = n := by omega
        have Hf := Lib.hid (lists_eq He.out L.out.1 L.out.2)
        go_wp2_with fail
        go_ret
        exact ⟨ret_bool Hf.out.symm, HD.out⟩
  · have he : ((n : Int) != (n' : Int)) = true := by rw [bne_iff_ne]; omega
    have he2 : ((n : Int) == (n' : Int)) = false := by rw [beq_eq_false_iff_ne]; omega
    have Hf := Lib.hid (lists_len (show xss.length ≠ yss.length by omega))
    clear hnn h1 h2 l1 l2 hL hL'
    go_enter Try.func37, Try.ntmps37
    go_wp2_with fail
    go_ret
    exact ⟨ret_bool Hf.out.symm, Dr.refl w⟩

set_option maxRecDepth 100000 in
set_option maxHeartbeats 2000000 in
theorem sameL_any (A A' : Option Addr) (n n' c c' B B' : Nat) (xss yss : List (List UInt8)) (w : World) (h1 : Rows8 w B A n xss) (h2 : Rows8 w B' A' n' yss) (hn : n ≤ 1000000) :
    Calls Try.prog 14 #[.slice A n c, .slice A' n' c'] w fun e w' => e = .returned (.bool (decide (xss = yss))) ∧ Dr w w' := by
  have l1 := h1.len
  have l2 := h2.len
  by_cases hnn : n = n'
  · subst hnn
    have H1 := Lib.hid (fun W (hW : Dr w W) (k : Nat) (hk : k < n) => (hW.rows8 h1).rowr hk)
    have H2 := Lib.hid (fun W (hW : Dr w W) (k : Nat) (hk : k < n) => (hW.rows8 h2).rowr hk)
    have L := Lib.hid (show xss.length = n ∧ yss.length = n from ⟨l1, l2⟩)
    clear h1 h2 l1 l2
    go_enter Try.func14, Try.ntmps14
    go_wp2_with fail
    go_loopw [5] (fun i wr => ∃ k : Nat, i = .int .i64 k ∧ k ≤ n ∧ Hid (Dr w wr) ∧ Hid (xss.take k = yss.take k)) (fun i _ => n - (intOf i).toNat)
    case atStart => exact ⟨0, rfl, by omega, Dr.refl w, rfl⟩
    case round =>
      obtain ⟨k, rfl, hk, HD, He⟩ := hrel
      by_cases hlt : k < n
      · obtain ⟨ad, x, Ax, cx, rfl, hx, hcx, -, -, hrx⟩ := H1.out wr HD.out k hlt
        obtain ⟨ad', y, Ay, cy, rfl, hy, hcy, -, -, hry⟩ := H2.out wr HD.out k hlt
        have hlt' : (k : Int) < (n : Int) := by omega
        have e1 := run_str (P := Try.prog) (w := wr) (c := cx) 35 9 5 Try.underlying35 Try.underlying5 Try.underlying9 hrx
        have e2 := run_str (P := Try.prog) (w := wr) (c := cy) 35 9 5 Try.underlying35 Try.underlying5 Try.underlying9 hry
        have e1' := run_str (P := Try.prog) (w := wr.drew) (c := cx) 35 9 5 Try.underlying35 Try.underlying5 Try.underlying9 hrx.drew
        have e2' := run_str (P := Try.prog) (w := wr.drew) (c := cy) 35 9 5 Try.underlying35 Try.underlying5 Try.underlying9 hry.drew
        clear e1 e2
        generalize x.length = lx at *
        generalize y.length = ly at *
        by_cases hxy : x = y
        · have He2 := Lib.hid (lists_take He.out hx hy hxy)
          clear hx hy hrx hry
          subst hxy
          go_wp2_with fail
          refine region_E 11 (fun W => W.cell? (ad.add k) = some (.slice Ax lx cx) ∧ W.cell? (ad'.add k) = some (.slice Ay ly cy) ∧ (convert 35 9 (.slice Ax lx cx)).run Try.prog W = .ok (.string ⟨x.toArray⟩) W ∧ (convert 35 9 (.slice Ay ly cy)).run Try.prog W = .ok (.string ⟨x.toArray⟩) W) (by kernel_rfl) ⟨hcx, hcy, e1', e2'⟩ (fun hHeld => ?_)
          refine took 0 (v := ?_) rfl (by kernel_rfl) (by kernel_rfl) (by kernel_rfl) (by kernel_rfl) (fun _ _ _ h => h) (by rfl) (by assumption) ?_ ?_
          rotate_left
          · (intro W hSw; (try dsimp only at hSw); go_simp; first | done | with_reducible rfl)
          try simp only [Act.put, List.setIfInBounds_toArray, List.set_cons_zero, List.set_cons_succ]
          refine took 1 (v := ?_) rfl (by kernel_rfl) (by kernel_rfl) (by kernel_rfl) (by kernel_rfl) (fun _ _ _ h => h) (by rfl) (by assumption) ?_ ?_
          rotate_left
          · (intro W hSw; (try dsimp only at hSw); go_simp; first | done | with_reducible rfl)
          try simp only [Act.put, List.setIfInBounds_toArray, List.set_cons_zero, List.set_cons_succ]
          refine took 2 (v := ?_) rfl (by kernel_rfl) (by kernel_rfl) (by kernel_rfl) (by kernel_rfl) (fun _ _ _ h => h) (by rfl) (by assumption) ?_ ?_
          rotate_left
          · (intro W hSw; (try dsimp only at hSw); go_simp; first | done | with_reducible rfl)
          try simp only [Act.put, List.setIfInBounds_toArray, List.set_cons_zero, List.set_cons_succ]
          refine took 3 (v := ?_) rfl (by kernel_rfl) (by kernel_rfl) (by kernel_rfl) (by kernel_rfl) (fun _ _ _ h => h) (by rfl) (by assumption) ?_ ?_
          rotate_left
          · (intro W hSw; (try dsimp only at hSw); go_simp; first | done | with_reducible rfl)
          try simp only [Act.put, List.setIfInBounds_toArray, List.set_cons_zero, List.set_cons_succ]
          refine took 4 (v := ?_) rfl (by kernel_rfl) (by kernel_rfl) (by kernel_rfl) (by kernel_rfl) (fun _ _ _ h => h) (by rfl) (by assumption) ?_ ?_
          rotate_left
          · (intro W hSw; (try dsimp only at hSw); go_simp; first | done | with_reducible rfl)
          try simp only [Act.put, List.setIfInBounds_toArray, List.set_cons_zero, List.set_cons_succ]
          refine took 5 (v := ?_) rfl (by kernel_rfl) (by kernel_rfl) (by kernel_rfl) (by kernel_rfl) (fun _ _ _ h => h) (by rfl) (by assumption) ?_ ?_
          rotate_left
          · (intro W hSw; (try dsimp only at hSw); go_simp; first | done | with_reducible rfl)
          try simp only [Act.put, List.setIfInBounds_toArray, List.set_cons_zero, List.set_cons_succ]
          refine took 6 (v := ?_) rfl (by kernel_rfl) (by kernel_rfl) (by kernel_rfl) (by kernel_rfl) (fun _ _ _ h => h) (by rfl) (by assumption) ?_ ?_
          rotate_left
          · (intro W hSw; (try dsimp only at hSw); go_simp; first | done | with_reducible rfl)
          try simp only [Act.put, List.setIfInBounds_toArray, List.set_cons_zero, List.set_cons_succ]
          refine took 7 (v := ?_) rfl (by kernel_rfl) (by kernel_rfl) (by kernel_rfl) (by kernel_rfl) (fun _ _ _ h => h) (by rfl) (by assumption) ?_ ?_
          rotate_left
          · (intro W hSw; (try dsimp only at hSw); go_simp; first | done | with_reducible rfl)
          try simp only [Act.put, List.setIfInBounds_toArray, List.set_cons_zero, List.set_cons_succ]
          refine took 8 (v := ?_) rfl (by kernel_rfl) (by kernel_rfl) (by kernel_rfl) (by kernel_rfl) (fun _ _ _ h => h) (by rfl) (by assumption) ?_ ?_
          rotate_left
          · (intro W hSw; (try dsimp only at hSw); go_simp; first | done | with_reducible rfl)
          try simp only [Act.put, List.setIfInBounds_toArray, List.set_cons_zero, List.set_cons_succ]
          refine took 9 (v := ?_) rfl (by kernel_rfl) (by kernel_rfl) (by kernel_rfl) (by kernel_rfl) (fun _ _ _ h => h) (by rfl) (by assumption) ?_ ?_
          rotate_left
          · (intro W hSw; (try dsimp only at hSw); go_simp; first | done | with_reducible rfl)
          try simp only [Act.put, List.setIfInBounds_toArray, List.set_cons_zero, List.set_cons_succ]
          refine took 10 (v := ?_) rfl (by kernel_rfl) (by kernel_rfl) (by kernel_rfl) (by kernel_rfl) (fun _ _ _ h => h) (by rfl) (by assumption) ?_ ?_
          rotate_left
          · (intro W hSw; (try dsimp only at hSw); go_simp; first | done | with_reducible rfl)
          try simp only [Act.put, List.setIfInBounds_toArray, List.set_cons_zero, List.set_cons_succ]
          refine allDone (by kernel_rfl) ?_ _
          clear hHeld e1' e2' hcx hcy
          go_wp2_with fail
          go_roundw
          case rel => exact ⟨k + 1, by go_num, by omega, HD.out.trans ⟨1, rfl⟩, He2⟩
          case measure => simp [intOf]; omega
        · have Hf := Lib.hid (lists_ne hx hy hxy)
          have q1 : (x == y) = false := by rw [beq_eq_false_iff_ne]; exact hxy
          have q2 : (x != y) = true := by rw [bne_iff_ne]; exact hxy
          clear hx hy hrx hry hxy
          go_wp2_with fail
          refine region_E 11 (fun W => W.cell? (ad.add k) = some (.slice Ax lx cx) ∧ W.cell? (ad'.add k) = some (.slice Ay ly cy) ∧ (convert 35 9 (.slice Ax lx cx)).run Try.prog W = .ok (.string ⟨x.toArray⟩) W ∧ (convert 35 9 (.slice Ay ly cy)).run Try.prog W = .ok (.string ⟨y.toArray⟩) W) (by kernel_rfl) ⟨hcx, hcy, e1', e2'⟩ (fun hHeld => ?_)
          refine took 0 (v := ?_) rfl (by kernel_rfl) (by kernel_rfl) (by kernel_rfl) (by kernel_rfl) (fun _ _ _ h => h) (by rfl) (by assumption) ?_ ?_
          rotate_left
          · (intro W hSw; (try dsimp only at hSw); go_simp; first | done | with_reducible rfl)
          try simp only [Act.put, List.setIfInBounds_toArray, List.set_cons_zero, List.set_cons_succ]
          refine took 1 (v := ?_) rfl (by kernel_rfl) (by kernel_rfl) (by kernel_rfl) (by kernel_rfl) (fun _ _ _ h => h) (by rfl) (by assumption) ?_ ?_
          rotate_left
          · (intro W hSw; (try dsimp only at hSw); go_simp; first | done | with_reducible rfl)
          try simp only [Act.put, List.setIfInBounds_toArray, List.set_cons_zero, List.set_cons_succ]
          refine took 2 (v := ?_) rfl (by kernel_rfl) (by kernel_rfl) (by kernel_rfl) (by kernel_rfl) (fun _ _ _ h => h) (by rfl) (by assumption) ?_ ?_
          rotate_left
          · (intro W hSw; (try dsimp only at hSw); go_simp; first | done | with_reducible rfl)
          try simp only [Act.put, List.setIfInBounds_toArray, List.set_cons_zero, List.set_cons_succ]
          refine took 3 (v := ?_) rfl (by kernel_rfl) (by kernel_rfl) (by kernel_rfl) (by kernel_rfl) (fun _ _ _ h => h) (by rfl) (by assumption) ?_ ?_
          rotate_left
          · (intro W hSw; (try dsimp only at hSw); go_simp; first | done | with_reducible rfl)
          try simp only [Act.put, List.setIfInBounds_toArray, List.set_cons_zero, List.set_cons_succ]
          refine took 4 (v := ?_) rfl (by kernel_rfl) (by kernel_rfl) (by kernel_rfl) (by kernel_rfl) (fun _ _ _ h => h) (by rfl) (by assumption) ?_ ?_
          rotate_left
          · (intro W hSw; (try dsimp only at hSw); go_simp; first | done | with_reducible rfl)
          try simp only [Act.put, List.setIfInBounds_toArray, List.set_cons_zero, List.set_cons_succ]
          refine took 5 (v := ?_) rfl (by kernel_rfl) (by kernel_rfl) (by kernel_rfl) (by kernel_rfl) (fun _ _ _ h => h) (by rfl) (by assumption) ?_ ?_
          rotate_left
          · (intro W hSw; (try dsimp only at hSw); go_simp; first | done | with_reducible rfl)
          try simp only [Act.put, List.setIfInBounds_toArray, List.set_cons_zero, List.set_cons_succ]
          refine took 6 (v := ?_) rfl (by kernel_rfl) (by kernel_rfl) (by kernel_rfl) (by kernel_rfl) (fun _ _ _ h => h) (by rfl) (by assumption) ?_ ?_
          rotate_left
          · (intro W hSw; (try dsimp only at hSw); go_simp; first | done | with_reducible rfl)
          try simp only [Act.put, List.setIfInBounds_toArray, List.set_cons_zero, List.set_cons_succ]
          refine took 7 (v := ?_) rfl (by kernel_rfl) (by kernel_rfl) (by kernel_rfl) (by kernel_rfl) (fun _ _ _ h => h) (by rfl) (by assumption) ?_ ?_
          rotate_left
          · (intro W hSw; (try dsimp only at hSw); go_simp; first | done | with_reducible rfl)
          try simp only [Act.put, List.setIfInBounds_toArray, List.set_cons_zero, List.set_cons_succ]
          refine took 8 (v := ?_) rfl (by kernel_rfl) (by kernel_rfl) (by kernel_rfl) (by kernel_rfl) (fun _ _ _ h => h) (by rfl) (by assumption) ?_ ?_
          rotate_left
          · (intro W hSw; (try dsimp only at hSw); go_simp; first | done | with_reducible rfl)
          try simp only [Act.put, List.setIfInBounds_toArray, List.set_cons_zero, List.set_cons_succ]
          refine took 9 (v := ?_) rfl (by kernel_rfl) (by kernel_rfl) (by kernel_rfl) (by kernel_rfl) (fun _ _ _ h => h) (by rfl) (by assumption) ?_ ?_
          rotate_left
          · (intro W hSw; (try dsimp only at hSw); go_simp; first | done | with_reducible rfl)
          try simp only [Act.put, List.setIfInBounds_toArray, List.set_cons_zero, List.set_cons_succ]
          refine took 10 (v := ?_) rfl (by kernel_rfl) (by kernel_rfl) (by kernel_rfl) (by kernel_rfl) (fun _ _ _ h => h) (by rfl) (by assumption) ?_ ?_
          rotate_left
          · (intro W hSw; (try dsimp only at hSw); go_simp; first | done | with_reducible rfl)
          try simp only [Act.put, List.setIfInBounds_toArray, List.set_cons_zero, List.set_cons_succ]
          refine allDone (by kernel_rfl) ?_ _
          clear hHeld e1' e2' hcx hcy
          go_wp2_with fail
          go_ret
          exact ⟨ret_bool Hf.out.symm, HD.out.trans ⟨1, rfl⟩⟩
      · obtain rfl : k = n := by omega
        have Hf := Lib.hid (lists_eq He.out L.out.1 L.out.2)
        go_wp2_with fail
        go_ret
        exact ⟨ret_bool Hf.out.symm, HD.out⟩
  · have he : ((n : Int) != (n' : Int)) = true := by rw [bne_iff_ne]; omega
    have he2 : ((n : Int) == (n' : Int)) = false := by rw [beq_eq_false_iff_ne]; omega
    have Hf := Lib.hid (lists_len (show xss.length ≠ yss.length by omega))
    clear hnn h1 h2 l1 l2
    go_enter Try.func14, Try.ntmps14
    go_wp2_with fail
    go_ret
    exact ⟨ret_bool Hf.out.symm, Dr.refl w⟩

namespace Rsp
def great (l : List (List UInt8)) : Bool := decide (16 < l.length) || l.any fun x => decide (40 < x.length)
theorem great_len {l : List (List UInt8)} (h : 16 < l.length) : great l = true := by unfold great; rw [decide_eq_true h]; rfl
theorem great_yes {l : List (List UInt8)} {i : Nat} {x : List UInt8} (hx : l[i]? = some x) (h : 40 < x.length) : great l = true := by
  unfold great
  rw [Bool.or_eq_true]
  exact .inr (List.any_eq_true.2 ⟨x, List.mem_of_getElem? hx, decide_eq_true h⟩)
theorem great_no {l : List (List UInt8)} (h0 : l.length ≤ 16) (h : ∀ (i : Nat) (x : List UInt8), l[i]? = some x → x.length ≤ 40) : great l = false := by
  unfold great
  rw [Bool.or_eq_false_iff]
  refine ⟨decide_eq_false (by omega), List.any_eq_false.2 fun x hx => ?_⟩
  obtain ⟨i, hi, rfl⟩ := List.getElem_of_mem hx
  have := h i _ (List.getElem?_eq_getElem hi)
  simp; omega
theorem great_parts {l : List (List UInt8)} (h : great l = false) : l.length ≤ 16 ∧ ∀ x ∈ l, x.length ≤ 40 := by
  unfold great at h
  rw [Bool.or_eq_false_iff, decide_eq_false_iff_not] at h
  refine ⟨by omega, fun x hx => ?_⟩
  have := List.any_eq_false.1 h.2 x hx
  simp at this; exact this
end Rsp
set_option maxRecDepth 100000 in
theorem greatL_any (A : Option Addr) (n c B : Nat) (xss : List (List UInt8)) (w : World) (h : Rows8 w B A n xss) : Calls Try.prog 10 #[.slice A n c] w fun e w' => e = .returned (.bool (Rsp.great xss)) ∧ w = w' := by
  have hl := h.len
  by_cases h16 : n ≤ 16
  · have H := Lib.hid (fun k (hk : k < n) => h.rowl hk)
    have HL := Lib.hid hl
    have h16' : (n : Int) ≤ 16 := by omega
    have YES := Lib.hid (fun i x hx h => Rsp.great_yes (l := xss) (i := i) (x := x) hx h)
    have NO := Lib.hid (fun h => Rsp.great_no (l := xss) (by omega) h)
    clear h hl
    go_enter Try.func10, Try.ntmps10
    go_wp2_with fail
    go_loop [3] (fun v3 => ∃ i : Nat, v3 = .int .i64 i ∧ i ≤ n ∧ Hid (∀ t x, t < i → xss[t]? = some x → x.length ≤ 40)) (fun v3 => n - (intOf v3).toNat)
    case atStart => exact ⟨0, rfl, by omega, fun t x ht => by omega⟩
    case round =>
      obtain ⟨i, rfl, hin, HI⟩ := hrel
      by_cases hlt : i < n
      · have hlt' : (i : Int) < (n : Int) := by omega
        obtain ⟨ad, x, Ai, ci, hA, hx, ei⟩ := H.out i hlt
        subst hA
        by_cases hxl : x.length ≤ 40
        · have HI2 : Hid (∀ t b, t < i + 1 → xss[t]? = some b → b.length ≤ 40) := fun t b ht hb => by
            by_cases e : t = i
            · rw [e, hx] at hb; injection hb with hb; rw [← hb]; exact hxl
            · exact HI.out t b (by omega) hb
          have hxl' : (x.length : Int) ≤ 40 := by omega
          generalize x.length = lx at *
          go_wp2_with fail
          go_round
          case rel => exact ⟨i + 1, by go_num, by omega, HI2⟩
          case measure => simp [intOf]; omega
        · have hg := Lib.hid (YES.out i x hx (by omega))
          have hxl' : (40 : Int) < (x.length : Int) := by omega
          generalize x.length = lx at *
          go_wp2_with fail
          go_ret
          exact ⟨ret_bool hg.out.symm, rfl⟩
      · have hge : (n : Int) ≤ (i : Int) := by omega
        have hg := Lib.hid (NO.out (fun t b hb => HI.out t b (by have := (List.getElem?_eq_some_iff.1 hb).1; have := HL.out; omega) hb))
        go_wp2_with fail
        go_ret
        exact ⟨ret_bool hg.out.symm, rfl⟩
  · have h16' : (16 : Int) < (n : Int) := by omega
    rw [Rsp.great_len (l := xss) (by omega)]
    clear h hl
    go_enter Try.func10, Try.ntmps10
    go_wp2_with fail
    go_ret
    exact ⟨rfl, rfl⟩
theorem Rows8.take {w : World} {B n k : Nat} {A : Option Addr} {xss : List (List UInt8)} (h : Rows8 w B A n xss) (hk : k ≤ n) : Rows8 w B A k (xss.take k) := by
  obtain ⟨cs, h1, h2, h3⟩ := h
  refine ⟨cs.take (k * 1), h1.take hk, by rw [List.length_take]; omega, fun i xs hi => ?_⟩
  rw [List.getElem?_take] at hi
  split at hi
  · rename_i hik
    obtain ⟨Ai, ni, ci, a1, a2⟩ := h3 i xs hi
    exact ⟨Ai, ni, ci, by rw [List.getElem?_take, if_pos (by omega)]; exact a1, a2⟩
  · cases hi
theorem Rows8.cut {w : World} {B n k cap : Nat} {A : Option Addr} {xss : List (List UInt8)} (h : Rows8 w B A n xss) (hk : k ≤ n) (hc : n ≤ cap) : Rows8 w B (cutA A cap k 1) (n - k) (xss.drop k) := by
  obtain ⟨cs, h1, h2, h3⟩ := h
  refine ⟨cs.drop (k * 1), h1.cut hk hc, by rw [List.length_drop]; omega, fun i xs hi => ?_⟩
  rw [List.getElem?_drop] at hi
  obtain ⟨Ai, ni, ci, a1, a2⟩ := h3 _ xs hi
  exact ⟨Ai, ni, ci, by rw [List.getElem?_drop, Nat.mul_one]; exact a1, a2⟩
end Go.Proofs.Ytjbedcgacnnanaa
