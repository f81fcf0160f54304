/-
  The walks of joining: the document's, bit by bit.
-/
import Derived.Test.YtejbfndcaiphoaaDoorCrclaw3
namespace Go.Proofs.YtejbfndcaiphoaaDoor
open Go.RowKit

set_option maxRecDepth 100000 in
theorem refJoin_neg (a b : Nat) (k : Int) (w : World) (hk : k < 0) : Calls Tryd.prog 21 #[.int .u32 a, .int .u32 b, .int .i64 k] w fun e w' => e = .returned (.int .u32 0) ∧ w = w' := by
  go_enter Tryd.func21, Tryd.ntmps21
  go_wp2_with fail
  go_ret
  exact ⟨rfl, rfl⟩

set_option maxRecDepth 100000 in
theorem refJoin_any (a b n : Nat) (w : World) (ha : a < 4294967296) (hb : b < 4294967296) (hn : n < 4611686018427387904) :
    Calls Tryd.prog 21 #[.int .u32 a, .int .u32 b, .int .i64 n] w fun e w' => e = .returned (.int .u32 (Crcp.join a b n)) ∧ w = w' := by
  go_enter Tryd.func21, Tryd.ntmps21
  go_wp2_with fail
  go_loop [0, 7, 8] (fun x i _ => ∃ k : Nat, x = .int .u32 (Crcp.bits (8 * k) a) ∧ i = .int .i64 k ∧ k ≤ n) (fun _ i _ => n - (intOf i).toNat)
  case atStart => exact ⟨0, rfl, rfl, by omega⟩
  case round =>
    obtain ⟨k, rfl, rfl, hk⟩ := hrel
    have hx := Crcp.bits_lt (8 * k) a ha
    by_cases hlt : k < n
    · have Hk : Hid (Crcp.bits (8 * (k + 1)) a = Crcp.bits 8 (Crcp.bits (8 * k) a)) := by
        rw [show 8 * (k + 1) = 8 * k + 8 by omega]; exact Crcp.bits_add _ _ _
      have hlt' : (k : Int) < (n : Int) := by omega
      generalize Crcp.bits (8 * k) a = y at *
      go_wp2_with fail
      go_loop [0, 8] (fun x j => ∃ m : Nat, x = .int .u32 (Crcp.bits m y) ∧ j = .int .i64 m ∧ m ≤ 8) (fun _ j => 8 - (intOf j).toNat)
      case atStart => exact ⟨0, rfl, rfl, by omega⟩
      case round =>
        obtain ⟨m, rfl, rfl, hm⟩ := hrel
        have hy := Crcp.bits_lt m y hx
        by_cases hm8 : m < 8
        · have Hm : Hid (Crcp.bit1 (Crcp.bits m y) = Crcp.bits (m + 1) y) := by rw [Crcp.bits_add m 1]; rfl
          go_wp2_with fail; refine (refBit_any _ _ hy).mono ?_; rintro e w' ⟨rfl, rfl⟩
          go_wp2_with fail
          go_round
          case rel => exact ⟨m + 1, by rw [Hm.out], by go_num, by omega⟩
          case measure => simp [intOf]; omega
        · obtain rfl : m = 8 := by omega
          go_wp2_with fail
          go_round
          case rel => exact ⟨k + 1, by rw [Hk.out], by go_num, by omega⟩
          case measure => simp [intOf]; omega
    · obtain rfl : k = n := by omega
      have hxo := u32_xor_nat (Crcp.bits (8 * k) a) b hx hb
      have Hj : Hid (Crcp.join a b k = Crcp.bits (8 * k) a ^^^ b) := rfl
      generalize Crcp.bits (8 * k) a = y at *
      go_wp2_with fail
      go_ret
      exact ⟨ret_int (by rw [Hj.out]), rfl⟩
end Go.Proofs.YtejbfndcaiphoaaDoor
