/-
  What functions of the packages gf and firkinref04 compute, each walked once: those that chapter 5 reaches.
-/
import Derived.Test.YtbokbndphpdgoaaChecked
import Derived.Test.YtbokbndphpdgoaaGfp
import Derived.Test.YtbokbndphpdgoaaAr
import Derived.Lib.Hide
namespace Go.Proofs.Ytbokbndphpdgoaa
open Go.RowKit

theorem twice_any (a : Nat) (w : World) (ha : a < 256) :
    Calls Try.prog 55 #[.int .u8 a] w fun e w' => e = .returned (.int .u8 (Gfp.tw a)) ∧ w = w' := by
  have hb := u8_hi a ha
  have hx : bits .xor .u8 ((a : Int) * 2 % 256) 29 = (((a * 2 % 256) ^^^ 29 : Nat) : Int) := u8_xor_nat (a * 2 % 256) 29 (by omega) (by omega)
  by_cases h : a.testBit 7 = true
  · rw [h] at hb
    go_enter Try.func55, Try.ntmps55
    go_wp2
    go_ret
    exact ⟨ret_int (by rw [Gfp.tw, if_pos h, Nat.shiftLeft_eq]), rfl⟩
  · have h' : a.testBit 7 = false := by simpa using h
    rw [h'] at hb
    go_enter Try.func55, Try.ntmps55
    go_wp2
    go_ret
    exact ⟨ret_int (by rw [Gfp.tw, if_neg h, Nat.shiftLeft_eq]; omega), rfl⟩

theorem mul_any (a b : Nat) (w : World) (ha : a < 256) (hb : b < 256) :
    Calls Try.prog 54 #[.int .u8 a, .int .u8 b] w fun e w' => e = .returned (.int .u8 (Gfp.gm a b)) ∧ w = w' := by
  go_enter Try.func54, Try.ntmps54
  go_wp2
  go_loop [0, 1, 5] (fun x y o => ∃ k x' y' o' : Nat, x = .int .u8 x' ∧ y = .int .u8 y' ∧ o = .int .u8 o' ∧ x' < 256 ∧ y' < 256 ∧ o' < 256 ∧ y' < 2 ^ k ∧ Gfp.mulGo k x' y' o' = Gfp.gm a b) (fun _ y _ => (intOf y).toNat)
  case atStart => exact ⟨8, a, b, 0, rfl, rfl, rfl, ha, hb, by omega, hb, rfl⟩
  case round =>
    obtain ⟨k, x, y, o, rfl, rfl, rfl, hx, hy, ho, hk, hm⟩ := hrel
    have Hm := Lib.hid hm; clear hm
    by_cases h0 : y = 0
    · have Hr : Hid (o = Gfp.gm a b) := by
        have h := Hm.out
        rw [h0, Gfp.mulGo_zero] at h; exact h
      have hz : ((y : Int) != 0) = false := by simp [h0]
      clear h0
      go_wp2
      go_ret
      exact ⟨ret_int (by rw [Hr.out]), rfl⟩
    · obtain ⟨k, rfl⟩ : ∃ j, k = j + 1 := by
        cases k with
        | zero => exact absurd hk (by simp; omega)
        | succ j => exact ⟨j, rfl⟩
      have hk2 : y / 2 < 2 ^ k := by rw [Nat.pow_succ] at hk; omega
      have hz : ((y : Int) != 0) = true := by simp [h0]
      have hl := u8_lo y hy
      have hxo := u8_xor_nat o x ho hx
      have ho2 : o ^^^ x < 256 := Nat.xor_lt_two_pow (n := 8) ho hx
      have hy1 : 1 ≤ y := by omega
      clear h0 hk
      by_cases h1 : y % 2 = 1
      · have h2 : (bits .and .u8 (y : Int) 1 == 1) = true := by rw [hl, h1]; rfl
        have H2 : Hid (Gfp.mulGo k (Gfp.tw x) (y / 2) (o ^^^ x) = Gfp.gm a b) := by
          have h := Hm.out
          rw [Gfp.mulGo, if_pos h1] at h; exact h
        clear h1 hl
        go_wp2_with (go_at_call 55; refine (twice_any _ _ hx).mono ?_; rintro e w' ⟨rfl, rfl⟩)
        go_round
        case rel => exact ⟨k, Gfp.tw x, y / 2, o ^^^ x, rfl, rfl, rfl, Gfp.tw_lt x, by omega, ho2, hk2, H2.out⟩
        case measure => simp [intOf]; omega
      · have h2 : (bits .and .u8 (y : Int) 1 == 1) = false := by rw [hl]; simp; omega
        have H2 : Hid (Gfp.mulGo k (Gfp.tw x) (y / 2) o = Gfp.gm a b) := by
          have h := Hm.out
          rw [Gfp.mulGo, if_neg h1] at h; exact h
        clear h1 hl
        go_wp2_with (go_at_call 55; refine (twice_any _ _ hx).mono ?_; rintro e w' ⟨rfl, rfl⟩)
        go_round
        case rel => exact ⟨k, Gfp.tw x, y / 2, o, rfl, rfl, rfl, Gfp.tw_lt x, by omega, ho, hk2, H2.out⟩
        case measure => simp [intOf]; omega

theorem refMul_any (a b : Nat) (w : World) (ha : a < 256) (hb : b < 256) :
    Calls Try.prog 42 #[.int .u8 a, .int .u8 b] w fun e w' => e = .returned (.int .u8 (Gfp.gm a b)) ∧ w = w' := by
  go_enter Try.func42, Try.ntmps42
  go_wp2
  go_loop [5, 7] (fun p i => ∃ k p' : Nat, p = .int .i64 p' ∧ i = .int .i64 k ∧ k ≤ 8 ∧ p' < 65536 ∧ Gfp.upGo (8 - k) a b p' = Gfp.upGo 8 a b 0) (fun _ i => 8 - (intOf i).toNat)
  case atStart => exact ⟨0, 0, rfl, rfl, by omega, by omega, rfl⟩
  case round =>
    obtain ⟨k, p, rfl, rfl, hk, hp, hm⟩ := hrel
    by_cases h8 : k < 8
    · have hs : Gfp.upGo (8 - (k + 1)) a b (if (b >>> k) % 2 = 1 then p ^^^ (a <<< k) else p) = Gfp.upGo 8 a b 0 := by
        rw [← hm, show 8 - k = (8 - (k + 1)) + 1 by omega, Gfp.upGo, show 7 - (8 - (k + 1)) = k by omega]
      have hsl := shl_small a k 8 (by omega) (by omega)
      have hsl2 : a <<< k < 65536 := by
        rw [Nat.shiftLeft_eq]
        have : 2 ^ k ≤ 2 ^ 7 := Nat.pow_le_pow_right (by omega) (by omega)
        have := Nat.mul_lt_mul'' ha (show 2 ^ k < 2 ^ 8 by omega)
        omega
      have ho := shr_odd b k
      have hw : wrap64 ((a : Int) * 2 ^ k) = ((a <<< k : Nat) : Int) := by rw [shl_cast, wrap64_nat _ (by omega)]
      have hx := i64_xor_nat p (a <<< k) (by omega) (by omega)
      have hx2 : p ^^^ (a <<< k) < 65536 := Nat.xor_lt_two_pow (n := 16) hp hsl2
      clear hm hsl hsl2
      generalize a <<< k = sh at hs hw hx hx2
      by_cases hb1 : (b >>> k) % 2 = 1
      · rw [if_pos hb1] at hs
        have Hs := Lib.hid hs; clear hs
        rw [decide_eq_true hb1] at ho
        clear hb1
        go_wp2
        go_round
        case rel => exact ⟨k + 1, p ^^^ sh, rfl, by go_num, by omega, hx2, Hs.out⟩
        case measure => simp [intOf]; omega
      · rw [if_neg hb1] at hs
        have Hs := Lib.hid hs; clear hs
        rw [decide_eq_false hb1] at ho
        clear hb1
        go_wp2
        go_round
        case rel => exact ⟨k + 1, p, rfl, by go_num, by omega, hp, Hs.out⟩
        case measure => simp [intOf]; omega
    · obtain rfl : k = 8 := by omega
      have Hm : Hid (Gfp.downGo 7 p = Gfp.gm a b) := by
        rw [← Gfp.rm_eq a b ha hb, Gfp.rm, ← hm]; rfl
      clear hm hk h8
      go_wp2
      go_loop [5, 8] (fun p i => ∃ k p' : Nat, p = .int .i64 p' ∧ i = .int .i64 k ∧ 7 ≤ k ∧ k ≤ 14 ∧ p' < 65536 ∧ Gfp.downGo (k - 7) p' = Gfp.gm a b) (fun _ i => (intOf i).toNat)
      case atStart => exact ⟨14, p, rfl, rfl, by omega, by omega, hp, Hm.out⟩
      case round =>
        obtain ⟨k, p, rfl, rfl, hk7, hk, hp, hm⟩ := hrel
        by_cases h8 : 8 ≤ k
        · have hs : Gfp.downGo (k - 1 - 7) (if (p >>> k) % 2 = 1 then p ^^^ (285 <<< (k - 8)) else p) = Gfp.gm a b := by
            rw [← hm, show k - 7 = (k - 1 - 7) + 1 by omega, Gfp.downGo, show k - 1 - 7 + 8 = k by omega, show k - 1 - 7 = k - 8 by omega]
          have hsl2 : 285 <<< (k - 8) < 65536 := by
            rw [Nat.shiftLeft_eq]
            have : 2 ^ (k - 8) ≤ 2 ^ 6 := Nat.pow_le_pow_right (by omega) (by omega)
            omega
          have ho := shr_odd p k
          have hw : wrap64 (285 * 2 ^ (k - 8)) = ((285 <<< (k - 8) : Nat) : Int) := by
            rw [show (285 : Int) = ((285 : Nat) : Int) from rfl, shl_cast, wrap64_nat _ (by omega)]
          have hx := i64_xor_nat p (285 <<< (k - 8)) (by omega) (by omega)
          have hx2 : p ^^^ (285 <<< (k - 8)) < 65536 := Nat.xor_lt_two_pow (n := 16) hp hsl2
          clear hm hsl2
          generalize 285 <<< (k - 8) = sh at hs hw hx hx2
          by_cases hb1 : (p >>> k) % 2 = 1
          · rw [if_pos hb1] at hs
            have Hs := Lib.hid hs; clear hs
            rw [decide_eq_true hb1] at ho
            clear hb1
            go_wp2
            go_round
            case rel => exact ⟨k - 1, p ^^^ sh, rfl, by go_num, by omega, by omega, hx2, Hs.out⟩
            case measure => simp [intOf]; omega
          · rw [if_neg hb1] at hs
            have Hs := Lib.hid hs; clear hs
            rw [decide_eq_false hb1] at ho
            clear hb1
            go_wp2
            go_round
            case rel => exact ⟨k - 1, p, rfl, by go_num, by omega, by omega, hp, Hs.out⟩
            case measure => simp [intOf]; omega
        · obtain rfl : k = 7 := by omega
          have Hs : Hid (p = Gfp.gm a b) := hm
          clear hm
          go_wp2
          go_ret
          exact ⟨ret_int (by have h := Hs.out; have := Gfp.gm_lt a b ha; omega), rfl⟩

theorem pow_any (a n : Nat) (w : World) (ha : a < 256) :
    Calls Try.prog 47 #[.int .u8 a, .int .u64 n] w fun e w' => e = .returned (.int .u8 (Gfp.gpow a n)) ∧ w = w' := by
  by_cases h0 : n = 0
  · have hn : ((n : Int) == 0) = true := by simp [h0]
    have Hr : Hid (Gfp.gpow a n = 1) := by rw [h0]; rfl
    clear h0
    go_enter Try.func47, Try.ntmps47
    go_wp2
    go_ret
    exact ⟨ret_int (by rw [Hr.out]; rfl), rfl⟩
  · have hn : ((n : Int) == 0) = false := by simp [h0]
    by_cases h1 : a = 0
    · have hz : ((a : Int) == 0) = true := by simp [h1]
      have Hr : Hid (Gfp.gpow a n = 0) := by rw [h1]; exact Gfp.zero_gpow n h0
      clear h0 h1
      go_enter Try.func47, Try.ntmps47
      go_wp2
      go_ret
      exact ⟨ret_int (by rw [Hr.out]; rfl), rfl⟩
    · have hz : ((a : Int) == 0) = false := by simp [h1]
      have Hr : Hid (Gfp.gpow a (n % 255) = Gfp.gpow a n) := Gfp.gpow_mod a n h1 ha
      clear h0 h1
      go_enter Try.func47, Try.ntmps47
      go_wp2
      go_loop [0, 1, 5] (fun x y o => ∃ x' y' o' : Nat, x = .int .u8 x' ∧ y = .int .u64 y' ∧ o = .int .u8 o' ∧ x' < 256 ∧ y' < 256 ∧ o' < 256 ∧ Gfp.gm o' (Gfp.gpow x' y') = Gfp.gpow a (n % 255)) (fun _ y _ => (intOf y).toNat)
      case atStart => exact ⟨a, n % 255, 1, rfl, rfl, rfl, ha, by omega, by omega, Gfp.one_gm _ (Gfp.gpow_lt _ _)⟩
      case round =>
        obtain ⟨x, y, o, rfl, rfl, rfl, hx, hy, ho, hm⟩ := hrel
        have Hm := Lib.hid hm; clear hm
        by_cases hy0 : y = 0
        · have H2 : Hid (o = Gfp.gpow a n) := by
            have h := Hm.out
            rw [hy0, Gfp.gpow, Gfp.gm_one o ho, Hr.out] at h; exact h
          have hp : ¬ (0 : Int) < (y : Int) := by omega
          clear hy0
          go_wp2
          go_ret
          exact ⟨ret_int (by rw [H2.out]), rfl⟩
        · have hp : (0 : Int) < (y : Int) := by omega
          have hl := u64_lo y (by omega)
          have hoo := Gfp.gm_lt o x ho
          have hxx := Gfp.gm_lt x x hx
          clear hy0
          by_cases h1 : y % 2 = 1
          · have h2 : (bits .and .u64 (y : Int) 1 == 1) = true := by rw [hl, h1]; rfl
            have H2 : Hid (Gfp.gm (Gfp.gm o x) (Gfp.gpow (Gfp.gm x x) (y / 2)) = Gfp.gpow a (n % 255)) := (Gfp.gpow_step_odd o x y ho hx h1).trans Hm.out
            clear h1 hl
            go_wp2_with fail
            refine (mul_any _ _ _ ho hx).mono ?_; rintro e w' ⟨rfl, rfl⟩
            go_wp2_with fail
            refine (mul_any _ _ _ hx hx).mono ?_; rintro e w' ⟨rfl, rfl⟩
            go_wp2_with fail
            go_round
            case rel => exact ⟨Gfp.gm x x, y / 2, Gfp.gm o x, rfl, rfl, rfl, hxx, by omega, hoo, H2.out⟩
            case measure => simp [intOf]; omega
          · have h2 : (bits .and .u64 (y : Int) 1 == 1) = false := by rw [hl]; simp; omega
            have H2 : Hid (Gfp.gm o (Gfp.gpow (Gfp.gm x x) (y / 2)) = Gfp.gpow a (n % 255)) := (Gfp.gpow_step_even o x y hx h1).trans Hm.out
            clear h1 hl
            go_wp2_with fail
            refine (mul_any _ _ _ hx hx).mono ?_; rintro e w' ⟨rfl, rfl⟩
            go_wp2_with fail
            go_round
            case rel => exact ⟨Gfp.gm x x, y / 2, o, rfl, rfl, rfl, hxx, by omega, ho, H2.out⟩
            case measure => simp [intOf]; omega

theorem inv_any (a : Nat) (w : World) (ha : a < 256) :
    Calls Try.prog 37 #[.int .u8 a] w fun e w' => e = .returned (.tuple #[.int .u8 (Gfp.invV a), .int .i64 (Gfp.e13 a)]) ∧ w = w' := by
  by_cases h0 : a = 0
  · have hz : ((a : Int) == 0) = true := by simp [h0]
    have H : Hid (Gfp.invV a = 0 ∧ Gfp.e13 a = 13) := by rw [h0]; exact ⟨Gfp.invV_zero, rfl⟩
    clear h0
    go_enter Try.func37, Try.ntmps37
    go_wp2_with fail
    go_ret2
    exact ⟨ret_two (by rw [H.out.1]; rfl) (by rw [H.out.2]), rfl⟩
  · have hz : ((a : Int) == 0) = false := by simp [h0]
    have H : Hid (Gfp.e13 a = 0) := if_neg h0
    have H1 := pow_any a 254 w ha
    rw [← Gfp.invV_eq] at H1
    replace H1 := Lib.hid H1
    clear h0
    go_enter Try.func37, Try.ntmps37
    go_wp2_with fail; refine (H1.out).mono ?_; rintro e w' ⟨rfl, rfl⟩
    go_wp2_with fail
    go_ret2
    exact ⟨ret_two rfl (by rw [H.out]), rfl⟩

set_option maxRecDepth 100000 in
theorem refInv_any (a : Nat) (w : World) (ha : a < 256) :
    Calls Try.prog 38 #[.int .u8 a] w fun e w' => e = .returned (.tuple #[.int .u8 (Gfp.invV a), .int .i64 (Gfp.e13 a)]) ∧ w = w' := by
  go_enter Try.func38, Try.ntmps38
  go_wp2
  go_loop [4] (fun i => ∃ k : Nat, i = .int .i64 k ∧ 1 ≤ k ∧ k ≤ 256 ∧ (a ≠ 0 → k ≤ Gfp.invV a)) (fun i => (256 - intOf i).toNat)
  case atStart => exact ⟨1, rfl, by omega, by omega, fun h => Gfp.invV_pos a h ha⟩
  case round =>
    obtain ⟨k, rfl, hk1, hk, hm⟩ := hrel
    have Hm := Lib.hid hm; clear hm
    by_cases hlt : k < 256
    · have H1 := Lib.hid (refMul_any a k w ha hlt)
      by_cases h1 : Gfp.gm a k = 1
      · have hh : (((Gfp.gm a k : Nat) : Int) == 1) = true := by rw [h1]; rfl
        have Hr : Hid ((k : Int) = (Gfp.invV a : Nat)) := by rw [← Gfp.inv_unique a k ha hlt h1]; rfl
        have He : Hid (Gfp.e13 a = 0) := if_neg (by rintro rfl; rw [Gfp.zero_gm] at h1; cases h1)
        clear h1
        go_wp2_with fail; refine (H1.out).mono ?_; rintro e w' ⟨rfl, rfl⟩
        go_wp2_with fail
        go_ret2
        exact ⟨ret_two Hr.out (by rw [He.out]), rfl⟩
      · have hh : (((Gfp.gm a k : Nat) : Int) == 1) = false := by simp; omega
        have Hr : Hid (a ≠ 0 → k + 1 ≤ Gfp.invV a) := fun h => by
          have h2 := Hm.out h
          rcases Nat.lt_or_eq_of_le h2 with h3 | h3
          · exact h3
          · exact absurd (by rw [h3, Gfp.gm_invV a h ha]) h1
        clear h1
        go_wp2_with fail; refine (H1.out).mono ?_; rintro e w' ⟨rfl, rfl⟩
        go_wp2_with fail
        go_round
        case rel => exact ⟨k + 1, by go_num, by omega, by omega, Hr.out⟩
        case measure => simp [intOf]; omega
    · have H : Hid (Gfp.invV a = 0 ∧ Gfp.e13 a = 13) := by
        by_cases h0 : a = 0
        · rw [h0]; exact ⟨Gfp.invV_zero, rfl⟩
        · have := Hm.out h0
          have := Gfp.invV_lt a
          omega
      go_wp2_with fail
      go_ret2
      exact ⟨ret_two (by rw [H.out.1]; rfl) (by rw [H.out.2]), rfl⟩

end Go.Proofs.Ytbokbndphpdgoaa
