/-
  The walks of the steps of many shifts: of.
-/
import Derived.Test.YtejbfndcaiphoaaDoorCrcj
import Derived.Test.YtejbfndcaiphoaaDoorCrcp3
import Derived.Test.YtejbfndcaiphoaaDoorIdx
namespace Go.Proofs.YtejbfndcaiphoaaDoor
open Go.RowKit

/-- a step's cells -/
def sqC (m : Nat) : Array Value := ((Crcp.sq m).map fun v : Nat => Value.int .u32 (v : Int)).toArray
theorem sqC_at (m i : Nat) (h : i < 32) : (sqC m)[i]? = some (.int .u32 ((Crcp.bits m (2 ^ i) : Nat) : Int)) := by
  unfold sqC; rw [List.getElem?_toArray, List.getElem?_map, Crcp.sq_at m i h]; rfl

theorem sqC_size (m : Nat) : (sqC m).size = 32 := by simp [sqC, Crcp.sq]
theorem info_sq0 : (Tryd.prog.info? 47).map (·.size) = some 32 := by kernel_rfl
theorem info_sq (m : Nat) : (Tryd.prog.info? 47).map (·.size) = some (sqC m).size := by rw [sqC_size]; exact info_sq0

set_option maxRecDepth 100000 in
theorem of_any (m x : Nat) (w : World) (hx : x < 4294967296) :
    Calls Tryd.prog 28 #[.agg (sqC m), .int .u32 x] w fun e w' => e = .returned (.int .u32 (Crcp.bits m x)) ∧ Below w.heap.size w w' := by
  have hsz := Lib.hid (info_sq m)
  have hat := fun i h => Lib.hid (sqC_at m i h)
  generalize sqC m = S at *
  go_enter Tryd.func28, Tryd.ntmps28
  go_wp2_with (refine wpList_load_row rfl 47 _ rfl w.heap.size rfl 47 S (0, 0) _ (Blk.new _ _ _) Tryd.underlying47 rfl hsz.out ?_)
  go_loop [1, 5, 9] (fun y o i => ∃ k y' o' : Nat, y = .int .u32 y' ∧ o = .int .u32 o' ∧ i = .int .i64 k ∧ k ≤ 32 ∧ Hid (y' = x / 2 ^ k) ∧ Hid (o' = Crcp.bits m (x % 2 ^ k))) (fun _ _ i => 32 - (intOf i).toNat)
  case atStart => exact ⟨0, x, 0, rfl, rfl, rfl, by omega, (show x = x / 2 ^ 0 by simp), (show 0 = Crcp.bits m (x % 2 ^ 0) by rw [Nat.pow_zero, Nat.mod_one, Crcp.bits_zero])⟩
  case round =>
    obtain ⟨k, y, o, rfl, rfl, rfl, hk, Hy, Ho⟩ := hrel
    by_cases hlt : k < 32
    · have hidx := fun w' => run_index_cells (P := Tryd.prog) (w := w') 47 25 32 S .i64 k _ Tryd.underlying47 hlt (by kernel_rfl) (hat k hlt).out Tryd.underlying25
      have hb : Crcp.bits m (2 ^ k) < 4294967296 := Crcp.bits_lt _ _ (Crcp.two_pow_lt k hlt)
      have ho : o < 4294967296 := by
        rw [Ho.out]; exact Crcp.bits_lt _ _ (Nat.lt_of_le_of_lt (Nat.mod_le _ _) hx)
      have hy : y < 4294967296 := by
        rw [Hy.out]; exact Nat.lt_of_le_of_lt (Nat.div_le_self _ _) hx
      have Hs : Hid (Crcp.bits m (x % 2 ^ (k + 1)) = o ^^^ (if y % 2 = 1 then Crcp.bits m (2 ^ k) else 0)) := by
        rw [Ho.out, Hy.out]; exact Crcp.bits_step m x k
      have Hn : Hid (y / 2 = x / 2 ^ (k + 1)) := by
        rw [Hy.out]; show x / 2 ^ k / 2 = _; rw [Nat.div_div_eq_div_mul, Nat.pow_succ]
      have hxo := u32_xor_nat o (Crcp.bits m (2 ^ k)) ho hb
      have hlo := u32_lo y hy
      generalize Crcp.bits m (2 ^ k) = v at *
      have hlt' : (k : Int) < 32 := by omega
      rcases Nat.mod_two_eq_zero_or_one y with h2 | h2
      · rw [h2] at Hs hlo
        go_wp2_with fail
        go_round
        case rel => exact ⟨k + 1, y / 2, o, by go_num, rfl, by go_num, by omega, Hn, (by rw [Hs.out]; simp [Hid])⟩
        case measure => simp [intOf]; omega
      · rw [h2] at Hs hlo
        go_wp2_with fail
        go_round
        case rel => exact ⟨k + 1, y / 2, o ^^^ v, by go_num, rfl, by go_num, by omega, Hn, (by rw [Hs.out]; simp [Hid])⟩
        case measure => simp [intOf]; omega
    · obtain rfl : k = 32 := by omega
      have He : Hid (o = Crcp.bits m x) := by
        rw [Ho.out, Nat.mod_eq_of_lt hx]; rfl
      go_wp2_with fail
      go_ret
      exact ⟨ret_int (by rw [He.out]), (Below.refl _ _).alloc (Nat.le_refl _) _⟩
end Go.Proofs.YtejbfndcaiphoaaDoor
