/-
  The walks of the laws of layer 4 that take numbers alone: each returns true, and nothing that was there has turned.
-/
import Derived.Test.YtmnegkpofgjpmaaGfw
namespace Go.Proofs.Ytmnegkpofgjpmaa
open Go.RowKit

theorem gfField_walk (a b c : Nat) (w : World) (ha : a < 256) (hb : b < 256) (hc : c < 256) :
    Calls Try.prog 4 #[.int .u8 a, .int .u8 b, .int .u8 c] w fun e w' => e = .returned (.bool true) ∧ Below w.heap.size w w' := by
  have hab := Gfp.gm_lt a b ha
  have hac := Gfp.gm_lt a c ha
  have hbc := Gfp.gm_lt b c hb
  have hxbc : b ^^^ c < 256 := Nat.xor_lt_two_pow (n := 8) hb hc
  have x1 := u8_xor_nat b c hb hc
  have x2 := u8_xor_nat (Gfp.gm a b) (Gfp.gm a c) hab hac
  have H1 := mul_any a b w ha hb
  have H2 := mul_any b a w hb ha
  rw [Gfp.gm_comm b a hb ha] at H2
  have H3 := mul_any (Gfp.gm a b) c w hab hc
  have H4 := mul_any b c w hb hc
  have H5 := mul_any a (Gfp.gm b c) w ha hbc
  rw [← Gfp.gm_assoc a b c ha hb hc] at H5
  have H6 := mul_any a (b ^^^ c) w ha hxbc
  rw [Gfp.gm_xor_right a b c] at H6
  have H7 := mul_any a c w ha hc
  have H8 := mul_any a 1 w ha (by omega)
  rw [Gfp.gm_one a ha] at H8
  have hz : (((Gfp.gm a b : Nat) : Int) == 0) = (((a : Int) == 0) || ((b : Int) == 0)) := by
    by_cases h1 : a = 0
    · simp [h1, Gfp.zero_gm]
    · by_cases h2 : b = 0
      · simp [h2, Gfp.gm_zero]
      · have : Gfp.gm a b ≠ 0 := fun h => (Gfp.gm_eq_zero a b ha hb h).elim h1 h2
        rw [beq_eq_false_iff_ne.2 (show ((Gfp.gm a b : Nat) : Int) ≠ 0 by omega), beq_eq_false_iff_ne.2 (show ((a : Nat) : Int) ≠ 0 by omega), beq_eq_false_iff_ne.2 (show ((b : Nat) : Int) ≠ 0 by omega)]; rfl
  replace H1 := Lib.hid H1; replace H2 := Lib.hid H2; replace H3 := Lib.hid H3; replace H4 := Lib.hid H4; replace H5 := Lib.hid H5; replace H6 := Lib.hid H6; replace H7 := Lib.hid H7; replace H8 := Lib.hid H8
  generalize Gfp.gm (Gfp.gm a b) c = abc at *
  generalize Gfp.gm a b = ab at *
  generalize Gfp.gm b c = bc at *
  generalize Gfp.gm a c = ac at *
  generalize b ^^^ c = bxc at *
  generalize ab ^^^ ac = abac at *
  clear hab hac hbc hxbc
  cases hA : ((a : Int) == 0) <;> cases hB : ((b : Int) == 0) <;> simp only [hA, hB, Bool.or_false, Bool.or_true, Bool.or_self] at hz
  all_goals
    go_enter Try.func4, Try.ntmps4
    go_wp2_with fail
    refine (alive_any _).mono ?_; rintro e w' ⟨rfl, rfl⟩
    go_wp2_with fail
    refine H1.out.mono ?_; rintro e w' ⟨rfl, rfl⟩
    go_wp2_with fail
    refine H2.out.mono ?_; rintro e w' ⟨rfl, rfl⟩
    go_wp2_with fail
    refine H1.out.mono ?_; rintro e w' ⟨rfl, rfl⟩
    go_wp2_with fail
    refine H3.out.mono ?_; rintro e w' ⟨rfl, rfl⟩
    go_wp2_with fail
    refine H4.out.mono ?_; rintro e w' ⟨rfl, rfl⟩
    go_wp2_with fail
    refine H5.out.mono ?_; rintro e w' ⟨rfl, rfl⟩
    go_wp2_with fail
    refine H6.out.mono ?_; rintro e w' ⟨rfl, rfl⟩
    go_wp2_with fail
    refine H1.out.mono ?_; rintro e w' ⟨rfl, rfl⟩
    go_wp2_with fail
    refine H7.out.mono ?_; rintro e w' ⟨rfl, rfl⟩
    go_wp2_with fail
    refine H8.out.mono ?_; rintro e w' ⟨rfl, rfl⟩
    go_wp2_with fail
    refine H1.out.mono ?_; rintro e w' ⟨rfl, rfl⟩
    go_wp2_with fail
    go_ret
    exact ⟨rfl, Below.refl _ _⟩

theorem gfPowers_walk (a n m l : Nat) (w : World) (ha : a < 256) (_hn : n < 65536) (_hm : m < 2 ^ 64) (_hl : l < 2 ^ 64) :
    Calls Try.prog 6 #[.int .u8 a, .int .u16 n, .int .u64 m, .int .u64 l] w fun e w' => e = .returned (.bool true) ∧ Below w.heap.size w w' := by
  have H1 := pow_any a (n % 600) w ha
  have H2 := refPow_any a (n % 600) w ha (by omega)
  have H3 := pow_any a 255 w ha
  have H4 := pow_any a 18446744073709551615 w ha
  rw [show ((18446744073709551615 : Nat) : Int) = 18446744073709551615 from rfl] at H4
  have H5 := pow_any a m w ha
  have H6 := pow_any a l w ha
  have H7 := mul_any (Gfp.gpow a m) (Gfp.gpow a l) w (Gfp.gpow_lt _ _) (Gfp.gpow_lt _ _)
  rw [← Gfp.gpow_add a m l ha] at H7
  have H8 := pow_any a (m + l) w ha
  rw [Int.natCast_add] at H8
  have hm : (m : Int) < 9223372036854775808 ∨ (9223372036854775808 : Int) ≤ m := by omega
  have hl : (l : Int) < 9223372036854775808 ∨ (9223372036854775808 : Int) ≤ l := by omega
  have ek : ((n % 600 : Nat) : Int) = (n : Int) % 600 := rfl
  rw [ek] at H1 H2
  have hz : a = 0 ∨ (Gfp.gpow a 255 = 1 ∧ Gfp.gpow a 18446744073709551615 = 1 ∧ ((a : Int) != 0) = true) := by
    by_cases h : a = 0
    · exact .inl h
    · refine .inr ⟨Gfp.gpow_255 a h ha, ?_, by simp [h]⟩
      rw [← Gfp.gpow_mod a 18446744073709551615 h ha]; rfl
  generalize Gfp.gpow a (n % 600) = pk at *
  generalize Gfp.gpow a (m + l) = pml at *
  generalize Gfp.gpow a m = pm at *
  generalize Gfp.gpow a l = pl at *
  generalize Gfp.gpow a 255 = p255 at *
  generalize Gfp.gpow a 18446744073709551615 = pall at *
  replace H1 := Lib.hid H1; replace H2 := Lib.hid H2; replace H3 := Lib.hid H3; replace H4 := Lib.hid H4; replace H5 := Lib.hid H5; replace H6 := Lib.hid H6; replace H7 := Lib.hid H7; replace H8 := Lib.hid H8
  clear ek _hm _hl
  rcases hz with rfl | ⟨rfl, rfl, hz⟩ <;> rcases hm with hm | hm <;> rcases hl with hl | hl
  · go_enter Try.func6, Try.ntmps6
    go_wp2_with fail; refine (alive_any _).mono ?_; rintro e w' ⟨rfl, rfl⟩
    go_wp2_with fail; refine (H1.out).mono ?_; rintro e w' ⟨rfl, rfl⟩
    go_wp2_with fail; refine (H2.out).mono ?_; rintro e w' ⟨rfl, rfl⟩
    go_wp2_with fail; refine (H5.out).mono ?_; rintro e w' ⟨rfl, rfl⟩
    go_wp2_with fail; refine (H6.out).mono ?_; rintro e w' ⟨rfl, rfl⟩
    go_wp2_with fail; refine (H7.out).mono ?_; rintro e w' ⟨rfl, rfl⟩
    go_wp2_with fail; refine (H8.out).mono ?_; rintro e w' ⟨rfl, rfl⟩
    go_wp2_with fail
    go_ret
    exact ⟨rfl, Below.refl _ _⟩
  · go_enter Try.func6, Try.ntmps6
    go_wp2_with fail; refine (alive_any _).mono ?_; rintro e w' ⟨rfl, rfl⟩
    go_wp2_with fail; refine (H1.out).mono ?_; rintro e w' ⟨rfl, rfl⟩
    go_wp2_with fail; refine (H2.out).mono ?_; rintro e w' ⟨rfl, rfl⟩
    go_wp2_with fail
    go_ret
    exact ⟨rfl, Below.refl _ _⟩
  · go_enter Try.func6, Try.ntmps6
    go_wp2_with fail; refine (alive_any _).mono ?_; rintro e w' ⟨rfl, rfl⟩
    go_wp2_with fail; refine (H1.out).mono ?_; rintro e w' ⟨rfl, rfl⟩
    go_wp2_with fail; refine (H2.out).mono ?_; rintro e w' ⟨rfl, rfl⟩
    go_wp2_with fail
    go_ret
    exact ⟨rfl, Below.refl _ _⟩
  · go_enter Try.func6, Try.ntmps6
    go_wp2_with fail; refine (alive_any _).mono ?_; rintro e w' ⟨rfl, rfl⟩
    go_wp2_with fail; refine (H1.out).mono ?_; rintro e w' ⟨rfl, rfl⟩
    go_wp2_with fail; refine (H2.out).mono ?_; rintro e w' ⟨rfl, rfl⟩
    go_wp2_with fail
    go_ret
    exact ⟨rfl, Below.refl _ _⟩
  · go_enter Try.func6, Try.ntmps6
    go_wp2_with fail; refine (alive_any _).mono ?_; rintro e w' ⟨rfl, rfl⟩
    go_wp2_with fail; refine (H1.out).mono ?_; rintro e w' ⟨rfl, rfl⟩
    go_wp2_with fail; refine (H2.out).mono ?_; rintro e w' ⟨rfl, rfl⟩
    go_wp2_with fail; refine (H3.out).mono ?_; rintro e w' ⟨rfl, rfl⟩
    go_wp2_with fail; refine (H4.out).mono ?_; rintro e w' ⟨rfl, rfl⟩
    go_wp2_with fail; refine (H5.out).mono ?_; rintro e w' ⟨rfl, rfl⟩
    go_wp2_with fail; refine (H6.out).mono ?_; rintro e w' ⟨rfl, rfl⟩
    go_wp2_with fail; refine (H7.out).mono ?_; rintro e w' ⟨rfl, rfl⟩
    go_wp2_with fail; refine (H8.out).mono ?_; rintro e w' ⟨rfl, rfl⟩
    go_wp2_with fail
    go_ret
    exact ⟨rfl, Below.refl _ _⟩
  · go_enter Try.func6, Try.ntmps6
    go_wp2_with fail; refine (alive_any _).mono ?_; rintro e w' ⟨rfl, rfl⟩
    go_wp2_with fail; refine (H1.out).mono ?_; rintro e w' ⟨rfl, rfl⟩
    go_wp2_with fail; refine (H2.out).mono ?_; rintro e w' ⟨rfl, rfl⟩
    go_wp2_with fail; refine (H3.out).mono ?_; rintro e w' ⟨rfl, rfl⟩
    go_wp2_with fail; refine (H4.out).mono ?_; rintro e w' ⟨rfl, rfl⟩
    go_wp2_with fail
    go_ret
    exact ⟨rfl, Below.refl _ _⟩
  · go_enter Try.func6, Try.ntmps6
    go_wp2_with fail; refine (alive_any _).mono ?_; rintro e w' ⟨rfl, rfl⟩
    go_wp2_with fail; refine (H1.out).mono ?_; rintro e w' ⟨rfl, rfl⟩
    go_wp2_with fail; refine (H2.out).mono ?_; rintro e w' ⟨rfl, rfl⟩
    go_wp2_with fail; refine (H3.out).mono ?_; rintro e w' ⟨rfl, rfl⟩
    go_wp2_with fail; refine (H4.out).mono ?_; rintro e w' ⟨rfl, rfl⟩
    go_wp2_with fail
    go_ret
    exact ⟨rfl, Below.refl _ _⟩
  · go_enter Try.func6, Try.ntmps6
    go_wp2_with fail; refine (alive_any _).mono ?_; rintro e w' ⟨rfl, rfl⟩
    go_wp2_with fail; refine (H1.out).mono ?_; rintro e w' ⟨rfl, rfl⟩
    go_wp2_with fail; refine (H2.out).mono ?_; rintro e w' ⟨rfl, rfl⟩
    go_wp2_with fail; refine (H3.out).mono ?_; rintro e w' ⟨rfl, rfl⟩
    go_wp2_with fail; refine (H4.out).mono ?_; rintro e w' ⟨rfl, rfl⟩
    go_wp2_with fail
    go_ret
    exact ⟨rfl, Below.refl _ _⟩

theorem gfOrder_walk (n m : Nat) (w : World) (hn : n < 256) (hm : m < 256) :
    Calls Try.prog 7 #[.int .u8 n, .int .u8 m] w fun e w' => e = .returned (.bool true) ∧ Below w.heap.size w w' := by
  have H1 := Lib.hid (pow_any 2 n w (by omega))
  have H2 := Lib.hid (pow_any 2 m w (by omega))
  by_cases h1 : n = 255
  · have e1 : ((n : Int) == 255) = true := by simp [h1]
    clear h1
    go_enter Try.func7, Try.ntmps7
    go_wp2_with fail; refine (alive_any _).mono ?_; rintro e w' ⟨rfl, rfl⟩
    go_wp2_with fail
    go_ret
    exact ⟨rfl, Below.refl _ _⟩
  · have e1 : ((n : Int) == 255) = false := by rw [beq_eq_false_iff_ne]; omega
    by_cases h2 : m = 255
    · have e2 : ((m : Int) == 255) = true := by simp [h2]
      clear h1 h2
      go_enter Try.func7, Try.ntmps7
      go_wp2_with fail; refine (alive_any _).mono ?_; rintro e w' ⟨rfl, rfl⟩
      go_wp2_with fail
      go_ret
      exact ⟨rfl, Below.refl _ _⟩
    · have e2 : ((m : Int) == 255) = false := by rw [beq_eq_false_iff_ne]; omega
      have H3 : Hid ((((Gfp.gpow 2 n : Nat) : Int) == ((Gfp.gpow 2 m : Nat) : Int)) = ((n : Int) == (m : Int))) := by
        by_cases h : n = m
        · rw [h]; exact (beq_self_eq_true _).trans (beq_self_eq_true _).symm
        · have : Gfp.gpow 2 n ≠ Gfp.gpow 2 m := fun he => h (Gfp.gpow2_inj n m (by omega) (by omega) he)
          exact Eq.trans (beq_eq_false_iff_ne.2 (by omega)) (Eq.symm (beq_eq_false_iff_ne.2 (by omega)))
      clear h1 h2
      go_enter Try.func7, Try.ntmps7
      go_wp2_with fail; refine (alive_any _).mono ?_; rintro e w' ⟨rfl, rfl⟩
      go_wp2_with fail; refine (H1.out).mono ?_; rintro e w' ⟨rfl, rfl⟩
      go_wp2_with fail; refine (H2.out).mono ?_; rintro e w' ⟨rfl, rfl⟩
      go_wp2_with fail
      go_ret
      exact ⟨ret_bool (by rw [H3.out]; simp), Below.refl _ _⟩

set_option maxRecDepth 100000 in
theorem gfInverts_walk (a b : Nat) (w : World) (ha : a < 256) (hb : b < 256) :
    Calls Try.prog 10 #[.int .u8 a, .int .u8 b] w fun e w' => e = .returned (.bool true) ∧ Below w.heap.size w w' := by
  have H1 := Lib.hid (inv_any a w ha)
  have H2 := Lib.hid (refInv_any a w ha)
  have H3 := Lib.hid (div_any a b w ha hb)
  have H4 := Lib.hid (refDiv_any a b w ha hb)
  have H5 := Lib.hid (log_any a w ha)
  have H6 := Lib.hid (refLog_any a w ha)
  go_enter Try.func10, Try.ntmps10
  go_wp2_with fail; refine (alive_any _).mono ?_; rintro e w' ⟨rfl, rfl⟩
  go_wp2_with fail; refine (H1.out).mono ?_; rintro e w' ⟨rfl, rfl⟩
  go_wp2_with fail; refine (H2.out).mono ?_; rintro e w' ⟨rfl, rfl⟩
  go_wp2_with fail; refine (H3.out).mono ?_; rintro e w' ⟨rfl, rfl⟩
  go_wp2_with fail; refine (H4.out).mono ?_; rintro e w' ⟨rfl, rfl⟩
  go_wp2_with fail; refine (H5.out).mono ?_; rintro e w' ⟨rfl, rfl⟩
  go_wp2_with fail; refine (H6.out).mono ?_; rintro e w' ⟨rfl, rfl⟩
  go_wp2_with fail
  go_ret
  exact ⟨rfl, Below.refl _ _⟩

set_option maxRecDepth 100000 in
theorem gfBack_walk (a b : Nat) (w : World) (ha : a < 256) (hb : b < 256) :
    Calls Try.prog 11 #[.int .u8 a, .int .u8 b] w fun e w' => e = .returned (.bool true) ∧ Below w.heap.size w w' := by
  have H1 := Lib.hid (mul_any a b w ha hb)
  have H3 := log_any a w ha
  have H4 := pow_any 2 (Gfp.logV a) w (by omega)
  have hB : (((b : Int) == 0) = true ∧ ((b : Int) != 0) = false ∧ Gfp.e13 b = 13) ∨ (((b : Int) == 0) = false ∧ ((b : Int) != 0) = true ∧ Gfp.e13 b = 0 ∧ Gfp.divV (Gfp.gm a b) b = a) := by
    by_cases h : b = 0
    · exact .inl ⟨by simp [h], by simp [h], by rw [h]; rfl⟩
    · exact .inr ⟨by simp [h], by simp [h], if_neg h, Gfp.divV_gm a b h ha hb⟩
  have hA : (((a : Int) == 0) = true ∧ Gfp.e13 a = 13) ∨ (((a : Int) == 0) = false ∧ ((a : Int) != 0) = true ∧ Gfp.e13 a = 0 ∧ Gfp.logV a < 255 ∧ Gfp.gpow 2 (Gfp.logV a) = a) := by
    by_cases h : a = 0
    · exact .inl ⟨by simp [h], by rw [h]; rfl⟩
    · have e : Gfp.logV a = Gfp.glog a := if_neg h
      exact .inr ⟨by simp [h], by simp [h], if_neg h, by rw [e]; exact Gfp.glog_lt a h ha, by rw [e]; exact Gfp.gpow_glog a h ha⟩
  have H2 := div_any (Gfp.gm a b) b w (Gfp.gm_lt a b ha) hb
  generalize Gfp.e13 a = ea at *
  generalize Gfp.e13 b = eb at *
  generalize Gfp.divV (Gfp.gm a b) b = q at *
  generalize Gfp.gpow 2 (Gfp.logV a) = pw at *
  generalize Gfp.logV a = lg at *
  replace H2 := Lib.hid H2; replace H3 := Lib.hid H3; replace H4 := Lib.hid H4
  rcases hB with ⟨b1, b2, rfl⟩ | ⟨b1, b2, rfl, rfl⟩ <;> rcases hA with ⟨a1, rfl⟩ | ⟨a1, a2, rfl, hl, rfl⟩
  · go_enter Try.func11, Try.ntmps11
    go_wp2_with fail; refine (alive_any _).mono ?_; rintro e w' ⟨rfl, rfl⟩
    go_wp2_with fail; refine (H1.out).mono ?_; rintro e w' ⟨rfl, rfl⟩
    go_wp2_with fail; refine (H2.out).mono ?_; rintro e w' ⟨rfl, rfl⟩
    go_wp2_with fail; refine (H3.out).mono ?_; rintro e w' ⟨rfl, rfl⟩
    go_wp2_with fail
    go_ret
    exact ⟨rfl, Below.refl _ _⟩
  · go_enter Try.func11, Try.ntmps11
    go_wp2_with fail; refine (alive_any _).mono ?_; rintro e w' ⟨rfl, rfl⟩
    go_wp2_with fail; refine (H1.out).mono ?_; rintro e w' ⟨rfl, rfl⟩
    go_wp2_with fail; refine (H2.out).mono ?_; rintro e w' ⟨rfl, rfl⟩
    go_wp2_with fail; refine (H3.out).mono ?_; rintro e w' ⟨rfl, rfl⟩
    go_wp2_with fail; refine (H4.out).mono ?_; rintro e w' ⟨rfl, rfl⟩
    go_wp2_with fail
    go_ret
    exact ⟨rfl, Below.refl _ _⟩
  · go_enter Try.func11, Try.ntmps11
    go_wp2_with fail; refine (alive_any _).mono ?_; rintro e w' ⟨rfl, rfl⟩
    go_wp2_with fail; refine (H1.out).mono ?_; rintro e w' ⟨rfl, rfl⟩
    go_wp2_with fail; refine (H2.out).mono ?_; rintro e w' ⟨rfl, rfl⟩
    go_wp2_with fail; refine (H3.out).mono ?_; rintro e w' ⟨rfl, rfl⟩
    go_wp2_with fail
    go_ret
    exact ⟨rfl, Below.refl _ _⟩
  · go_enter Try.func11, Try.ntmps11
    go_wp2_with fail; refine (alive_any _).mono ?_; rintro e w' ⟨rfl, rfl⟩
    go_wp2_with fail; refine (H1.out).mono ?_; rintro e w' ⟨rfl, rfl⟩
    go_wp2_with fail; refine (H2.out).mono ?_; rintro e w' ⟨rfl, rfl⟩
    go_wp2_with fail; refine (H3.out).mono ?_; rintro e w' ⟨rfl, rfl⟩
    go_wp2_with fail; refine (H4.out).mono ?_; rintro e w' ⟨rfl, rfl⟩
    go_wp2_with fail
    go_ret
    exact ⟨rfl, Below.refl _ _⟩
end Go.Proofs.Ytmnegkpofgjpmaa
