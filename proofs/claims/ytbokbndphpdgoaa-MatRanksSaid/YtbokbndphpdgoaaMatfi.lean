/-
  The document's Rank, walked.
-/
import Derived.Test.YtbokbndphpdgoaaMativ
import Derived.Test.YtbokbndphpdgoaaMatmr
import Derived.Test.YtbokbndphpdgoaaReg2
import Derived.Test.YtbokbndphpdgoaaLin5
namespace Go.Proofs.Ytbokbndphpdgoaa
set_option linter.unusedSimpArgs false
set_option linter.unusedVariables false
open Go.RowKit

set_option maxRecDepth 100000 in
theorem refDiv_any (a b : Nat) (w : World) (ha : a < 256) (hb : b < 256) :
    Calls Try.prog 46 #[.int .u8 a, .int .u8 b] w fun e w' => e = .returned (.tuple #[.int .u8 (Gfp.divV a b), .int .i64 (Gfp.e13 b)]) ∧ w = w' := by
  by_cases h0 : b = 0
  · have hz : ((b : Int) == 0) = true := by simp [h0]
    have H : Hid (Gfp.divV a b = 0 ∧ Gfp.e13 b = 13) := by rw [h0]; exact ⟨Gfp.divV_zero a, rfl⟩
    clear h0
    go_enter Try.func46, Try.ntmps46
    go_wp2_with fail
    go_ret2
    exact ⟨ret_two (by rw [H.out.1]; rfl) (by rw [H.out.2]), rfl⟩
  · have hz : ((b : Int) == 0) = false := by simp [h0]
    have He : Hid (Gfp.e13 b = 0) := if_neg h0
    have H0 := Lib.hid h0
    clear h0
    go_enter Try.func46, Try.ntmps46
    go_wp2_with fail
    go_loop [6] (fun i => ∃ k : Nat, i = .int .i64 k ∧ k ≤ Gfp.divV a b) (fun i => (256 - intOf i).toNat)
    case atStart => exact ⟨0, rfl, by omega⟩
    case round =>
      obtain ⟨k, rfl, hk⟩ := hrel
      have hd := Gfp.divV_lt a b ha
      have H1 := Lib.hid (refMul_any b k w hb (by omega))
      by_cases h1 : Gfp.gm b k = a
      · have hh : (((Gfp.gm b k : Nat) : Int) == (a : Int)) = true := by rw [h1]; simp
        have Hr : Hid ((k : Int) = (Gfp.divV a b : Nat)) := by rw [← Gfp.div_unique a b k H0.out ha hb (by omega) h1]; rfl
        have H1' := H1.out
        rw [h1] at H1'
        replace H1' := Lib.hid H1'
        clear h1 hh
        go_wp2_with fail; refine (H1'.out).mono ?_; rintro e w' ⟨rfl, rfl⟩
        go_wp2_with fail
        go_ret2
        exact ⟨ret_two Hr.out (by rw [He.out]), rfl⟩
      · have hh : (((Gfp.gm b k : Nat) : Int) == (a : Int)) = false := by simp; omega
        have hk2 : k + 1 ≤ Gfp.divV a b := by
          rcases Nat.lt_or_eq_of_le hk with h3 | h3
          · exact h3
          · exact absurd (by rw [h3, Gfp.gm_divV a b H0.out ha hb]) h1
        clear h1
        go_wp2_with fail; refine (H1.out).mono ?_; rintro e w' ⟨rfl, rfl⟩
        go_wp2_with fail
        go_round
        case rel => exact ⟨k + 1, by go_num, hk2⟩
        case measure => simp [intOf]; omega


theorem refDiv8 (a b : UInt8) (w : World) :
    Calls Try.prog 46 #[.int .u8 (a.toNat : Int), .int .u8 (b.toNat : Int)] w fun e w' => e = .returned (.tuple #[.int .u8 ((fm a (fi b)).toNat : Int), .int .i64 (Gfp.e13 b.toNat)]) ∧ w = w' := by
  rw [fm_toNat, fi_toNat]
  exact refDiv_any _ _ _ a.toNat_lt b.toNat_lt
theorem row_set (C j : Nat) (f : Nat → UInt8) (v : UInt8) (hj : j < C) : ((rowF C f).map B8).set j (.int .u8 (v.toNat : Int)) = (rowF C (fun t => if t = j then v else f t)).map B8 := by
  show ((rowF C f).map B8).set j (B8 v) = _
  rw [← List.map_set]
  congr 1
  apply List.ext_getElem?
  intro t
  rw [List.getElem?_set, rowF_len]
  by_cases ht : t < C
  · rw [rowF_get _ _ _ ht, rowF_get _ _ _ ht]
    by_cases e : j = t
    · rw [if_pos e, if_pos hj, if_pos e.symm]
    · rw [if_neg e, if_neg (fun h => e h.symm)]
  · rw [List.getElem?_eq_none (by rw [rowF_len]; omega), List.getElem?_eq_none (by rw [rowF_len]; omega), if_neg (by omega)]

set_option maxRecDepth 100000 in
theorem first_any (A : Option Addr) (C c B : Nat) (f : Nat → UInt8) (w : World) (h : Reads w B 1 A C ((rowF C f).map B8)) (hC : C ≤ 100000) :
    Calls Try.prog 45 #[.slice A C c] w fun e w' => e = .returned (.int .i64 (Lin.ld C f : Nat)) ∧ w = w' := by
  obtain ⟨L, hL⟩ : ∃ L, Hid (Lin.ld C f = L) := ⟨_, rfl⟩
  have LU := Lib.hid (fun l h1 h2 h3 => (Lin.ld_unique (C := C) (l := l) (r := f) h1 h2 h3))
  rw [hL.out] at LU
  rw [hL.out]
  have H := Lib.hid h
  clear h
  go_enter Try.func45, Try.ntmps45
  go_wp2_with fail
  go_loop [3] (fun v3 => ∃ i : Nat, v3 = .int .i64 i ∧ i ≤ C ∧ Hid (∀ t, t < i → f t = 0)) (fun v3 => C - (intOf v3).toNat)
  case atStart => exact ⟨0, rfl, by omega, fun t ht => by omega⟩
  case round =>
    obtain ⟨i, rfl, hiC, HZ⟩ := hrel
    by_cases hlt : i < C
    · have hlt' : (i : Int) < (C : Int) := by omega
      obtain ⟨ad, b, hA, _, hb, ec⟩ := H.out.byte (k := i) hlt
      rw [rowF_get _ _ _ hlt] at hb
      injection hb with hb
      subst hA
      by_cases h0 : f i = 0
      · have hz : b.toNat = 0 := by rw [← hb, h0]; rfl
        rw [hz] at ec
        have HZ2 : Hid (∀ t, t < i + 1 → f t = 0) := fun t ht => by
          by_cases e : t = i
          · rw [e]; exact h0
          · exact HZ.out t (by omega)
        replace h0 := Lib.hid h0
        clear hz hb
        go_wp2_with fail
        go_round
        case rel => exact ⟨i + 1, by go_num, by omega, HZ2⟩
        case measure => simp [intOf]; omega
      · have hz : ¬ (b.toNat : Int) = 0 := fun e => h0 (by rw [hb]; exact u8_ext (show b.toNat = 0 by omega))
        have hiL : Hid (i = L) := LU.out i (by omega) HZ.out (fun _ => h0)
        have hb8 := b.toNat_lt
        generalize b.toNat = bn at *
        replace h0 := Lib.hid h0
        clear hb
        go_wp2_with fail
        go_ret
        exact ⟨by rw [hiL.out]; rfl, rfl⟩
    · have hge : (C : Int) ≤ (i : Int) := by omega
      have hiC2 : i = C := by omega
      have hiL : Hid (C = L) := LU.out C (by omega) (by rw [← hiC2]; exact HZ.out) (fun h => by omega)
      replace hiC2 := Lib.hid hiC2
      go_wp2_with fail
      go_ret
      exact ⟨by rw [hiL.out]; rfl, rfl⟩
end Go.Proofs.Ytbokbndphpdgoaa
