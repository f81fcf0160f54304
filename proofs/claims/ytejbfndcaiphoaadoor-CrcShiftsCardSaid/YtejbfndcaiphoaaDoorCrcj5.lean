/-
  The walk of joining sums by squares.
-/
import Derived.Test.YtejbfndcaiphoaaDoorCrcj4
namespace Go.Proofs.YtejbfndcaiphoaaDoor
open Go.RowKit

theorem i64_lo (a : Nat) (ha : a < 9223372036854775808) : bits .and .i64 (a : Int) 1 = ((a % 2 : Nat) : Int) := by
  rw [show (1 : Int) = ((1 : Nat) : Int) from rfl, i64_and_nat a 1 ha (by omega), Nat.and_one_is_mod]

set_option maxRecDepth 100000 in
theorem join_neg (a b : Nat) (k : Int) (w : World) (hk : k < 0) : Calls Tryd.prog 20 #[.int .u32 a, .int .u32 b, .int .i64 k] w fun e w' => e = .returned (.int .u32 0) ∧ Below w.heap.size w w' := by
  go_enter Tryd.func20, Tryd.ntmps20
  go_wp2_with fail
  go_ret
  exact ⟨rfl, Below.refl _ _⟩

set_option maxRecDepth 100000 in
set_option maxHeartbeats 1000000 in
theorem join_any (a b n : Nat) (w : World) (ha : a < 4294967296) (hb : b < 4294967296) (hn : n < 9223372036854775808) :
    Calls Tryd.prog 20 #[.int .u32 a, .int .u32 b, .int .i64 n] w fun e w' => e = .returned (.int .u32 (Crcp.join a b n)) ∧ Below w.heap.size w w' := by
  have T1 := fun w => Lib.hid (show Calls Tryd.prog 27 #[.agg (sqC 1)] w fun e w' => e = .returned (.agg (sqC 2)) ∧ Below w.heap.size w w' from twice_any 1 w)
  have T2 := fun w => Lib.hid (show Calls Tryd.prog 27 #[.agg (sqC 2)] w fun e w' => e = .returned (.agg (sqC 4)) ∧ Below w.heap.size w w' from twice_any 2 w)
  have T4 := fun w => Lib.hid (show Calls Tryd.prog 27 #[.agg (sqC 4)] w fun e w' => e = .returned (.agg (sqC 8)) ∧ Below w.heap.size w w' from twice_any 4 w)
  have hz := (zero_of_info info_sqz).1
  have hsz8 := Lib.hid (info_sq 8)
  go_enter Tryd.func20, Tryd.ntmps20
  go_wp2_with fail
  refine (bit_any _).mono ?_; rintro e w1 ⟨rfl, hB1⟩
  go_wp2_with fail
  refine (T1 _).out.mono ?_; rintro e w2 ⟨rfl, hB2⟩
  go_wp2_with fail
  refine (T2 _).out.mono ?_; rintro e w3 ⟨rfl, hB3⟩
  go_wp2_with fail
  refine (T4 _).out.mono ?_; rintro e w4 ⟨rfl, hB4⟩
  have HB4 := Lib.hid (below_then (below_then (below_then hB1 hB2) hB3) hB4)
  clear hB1 hB2 hB3 hB4 T1 T2 T4
  go_wp2_with (refine wpList_store_row rfl 47 _ _ rfl w4.heap.size (sqC 8) rfl rfl 47 zc32 (Blk.new _ _ _) hsz8.out (zc32_size 8) (sqC_one 8) ?_)
  have hB : Below w.heap.size w ((w4.alloc (.cells zc32 47)).setRow w4.heap.size (sqC 8)) := below_row (below_alloc HB4.out _) HB4.out.size _
  have hb8 : Blk ((w4.alloc (.cells zc32 47)).setRow w4.heap.size (sqC 8)) w4.heap.size 47 (sqC 8) := (Blk.new w4 47 zc32).row _
  have hg : w.heap.size ≤ w4.heap.size := HB4.out.size
  generalize (w4.alloc (.cells zc32 47)).setRow w4.heap.size (sqC 8) = w5 at *
  generalize w4.heap.size = g at *
  replace hB := Lib.hid hB; replace hb8 := Lib.hid hb8
  clear HB4 hz hsz8
  dsimp only [Act.put]
  go_loopw [0, 2] (fun x i wr => ∃ a' n' m : Nat, x = .int .u32 a' ∧ a' < 4294967296 ∧ i = .int .i64 n' ∧ n' < 9223372036854775808 ∧ Hid (Below w.heap.size w wr) ∧ Hid (Blk wr g 47 (sqC m)) ∧ Hid (Crcp.bits (m * n') a' = Crcp.bits (8 * n) a)) (fun _ i _ => (intOf i).toNat)
  case atStart => exact ⟨a, n, 8, rfl, ha, rfl, hn, hB, hb8, rfl⟩
  case round =>
    obtain ⟨a', n', m, rfl, ha', rfl, hn', HB, Hb, He⟩ := hrel
    by_cases h0 : n' = 0
    · subst h0
      have Hj : Hid (Crcp.join a b n = a' ^^^ b) := by
        have h := He.out
        rw [Nat.mul_zero] at h
        show Crcp.bits (8 * n) a ^^^ b = _
        rw [← h]; rfl
      have hxo := u32_xor_nat a' b ha' hb
      go_wp2_with fail
      go_ret
      exact ⟨ret_int (by rw [Hj.out]), HB.out⟩
    · have hpos : (0 : Int) < (n' : Int) := by omega
      have hlo := i64_lo n' hn'
      have hsz := Lib.hid (info_sq m)
      have T1 := fun w => Lib.hid (twice_any m w)
      have hgl : g < wr.heap.size := Hb.out.lt
      rcases Nat.mod_two_eq_zero_or_one n' with h2 | h2
      · rw [h2] at hlo
        have Hs : Hid (Crcp.bits ((m + m) * (n' / 2)) a' = Crcp.bits (8 * n) a) := by
          rw [← He.out, show (m + m) * (n' / 2) = m * n' by
            obtain ⟨t, rfl⟩ : ∃ t, n' = 2 * t := ⟨n' / 2, by omega⟩
            rw [show 2 * t / 2 = t by omega, ← Nat.mul_assoc, Nat.mul_comm m 2, Nat.two_mul]]; rfl
        go_wp2_with (refine wpList_load_row rfl 47 _ rfl g rfl 47 (sqC m) (0, 0) _ Hb.out Tryd.underlying47 rfl hsz.out ?_)
        refine (T1 _).out.mono ?_; rintro e w6 ⟨rfl, hB6⟩
        have HB6 := Lib.hid (HB.out.trans (hB6.mono HB.out.size))
        have Hb6 := Lib.hid (Hb.out.below hB6 hgl)
        have hsz2 := Lib.hid (info_sq (m + m))
        clear hB6 HB Hb
        go_wp2_with (refine wpList_store_row rfl 47 _ _ rfl g (sqC (m + m)) rfl rfl 47 (sqC m) Hb6.out hsz2.out ((sqC_size m).trans (sqC_size (m + m)).symm) (sqC_one (m + m)) ?_)
        go_roundw
        case rel => exact ⟨a', n' / 2, m + m, rfl, ha', by go_num, by omega, below_row HB6.out hg _, Hb6.out.row _, Hs⟩
        case measure => simp [intOf]; omega
      · rw [h2] at hlo
        have O1 := fun w => Lib.hid (of_any m a' w ha')
        have hbm := Crcp.bits_lt m a' ha'
        have Hs : Hid (Crcp.bits ((m + m) * (n' / 2)) (Crcp.bits m a') = Crcp.bits (8 * n) a) := by
          rw [← He.out, ← Crcp.bits_add, show m + (m + m) * (n' / 2) = m * n' by
            obtain ⟨t, rfl⟩ : ∃ t, n' = 2 * t + 1 := ⟨n' / 2, by omega⟩
            rw [show (2 * t + 1) / 2 = t by omega, Nat.mul_add, Nat.mul_one, ← Nat.mul_assoc, Nat.mul_comm m 2, Nat.two_mul, Nat.add_comm]]; rfl
        generalize Crcp.bits m a' = a'' at *
        go_wp2_with (refine wpList_load_row rfl 47 _ rfl g rfl 47 (sqC m) (0, 0) _ Hb.out Tryd.underlying47 rfl hsz.out ?_)
        refine (O1 _).out.mono ?_; rintro e w5' ⟨rfl, hB5⟩
        have HB5 := Lib.hid (HB.out.trans (hB5.mono HB.out.size))
        have Hb5 := Lib.hid (Hb.out.below hB5 hgl)
        clear hB5 HB Hb
        have hgl5 : g < w5'.heap.size := Hb5.out.lt
        go_wp2_with (refine wpList_load_row rfl 47 _ rfl g rfl 47 (sqC m) (0, 0) _ Hb5.out Tryd.underlying47 rfl hsz.out ?_)
        refine (T1 _).out.mono ?_; rintro e w6 ⟨rfl, hB6⟩
        have HB6 := Lib.hid (HB5.out.trans (hB6.mono HB5.out.size))
        have Hb6 := Lib.hid (Hb5.out.below hB6 hgl5)
        have hsz2 := Lib.hid (info_sq (m + m))
        clear hB6 HB5 Hb5
        go_wp2_with (refine wpList_store_row rfl 47 _ _ rfl g (sqC (m + m)) rfl rfl 47 (sqC m) Hb6.out hsz2.out ((sqC_size m).trans (sqC_size (m + m)).symm) (sqC_one (m + m)) ?_)
        go_roundw
        case rel => exact ⟨a'', n' / 2, m + m, rfl, hbm, by go_num, by omega, below_row HB6.out hg _, Hb6.out.row _, Hs⟩
        case measure => simp [intOf]; omega
end Go.Proofs.YtejbfndcaiphoaaDoor
