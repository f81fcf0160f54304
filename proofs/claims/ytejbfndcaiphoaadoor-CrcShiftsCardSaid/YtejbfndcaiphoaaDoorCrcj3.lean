/-
  The walks of the steps of many shifts: bit and twice.
-/
import Derived.Test.YtejbfndcaiphoaaDoorCrcj2
namespace Go.Proofs.YtejbfndcaiphoaaDoor
open Go.RowKit

/-- 32 zeros -/
def zc32 : Array Value := Array.replicate 32 (.int .u32 0)
theorem info_sqz : (Tryd.prog.info? 47).map (fun i => (i.zero, i.size)) = some (some (.agg zc32), 32) := by kernel_rfl
theorem sqC_one (m : Nat) : (sqC m).all (·.oneCell') = true := by
  unfold sqC
  rw [List.all_toArray, List.all_map]
  exact List.all_eq_true.2 fun _ _ => rfl
theorem zc32_size (m : Nat) : zc32.size = (sqC m).size := by rw [sqC_size]; simp [zc32]
theorem zc32_at (i : Nat) (h : i < 32) : zc32[i]? = some (.int .u32 0) := by simp [zc32, h]

set_option maxRecDepth 100000 in
theorem bit_any (w : World) : Calls Tryd.prog 26 #[] w fun e w' => e = .returned (.agg (sqC 1)) ∧ Below w.heap.size w w' := by
  have hz := (zero_of_info info_sqz).1
  have hz0 := zc32_at 0 (by omega)
  go_enter Tryd.func26, Tryd.ntmps26
  go_wp2_with fail
  have hS1 : Hid ((zc32.setIfInBounds 0 (Value.int .u32 3988292384)).size = 32) := by simp [zc32, Hid]
  have hS2 : Hid (∀ j, j < 1 → (zc32.setIfInBounds 0 (Value.int .u32 3988292384))[j]? = (sqC 1)[j]?) := fun j hj => by
    obtain rfl : j = 0 := by omega
    rw [sqC_at 1 0 (by omega), Crcp.bit_zero]; simp [zc32]
  generalize zc32.setIfInBounds 0 (Value.int .u32 3988292384) = c0 at *
  have hB : Below w.heap.size w ((w.alloc (.cells zc32 47)).alloc (.cells c0 47)) := ((Below.refl _ _).alloc (Nat.le_refl _) _).alloc (by simp) _
  have hb1 : Blk ((w.alloc (.cells zc32 47)).alloc (.cells c0 47)) w.heap.size 47 zc32 := (Blk.new w _ _).alloc _
  have hb2 : Blk ((w.alloc (.cells zc32 47)).alloc (.cells c0 47)) (w.heap.size + 1) 47 c0 := heap_alloc2_new w _ _
  have hw : w.heap.size + 1 < ((w.alloc (.cells zc32 47)).alloc (.cells c0 47)).heap.size := by simp
  generalize (w.alloc (.cells zc32 47)).alloc (.cells c0 47) = w1 at *
  replace hB := Lib.hid hB; replace hb1 := Lib.hid hb1; replace hb2 := Lib.hid hb2
  go_loopw [2] (fun i wr => ∃ k : Nat, i = .int .i64 k ∧ 1 ≤ k ∧ k ≤ 32 ∧ Hid (Below w.heap.size w wr) ∧ Hid (Blk wr w.heap.size 47 zc32) ∧
      ∃ cs : Array Value, Hid (Blk wr (w.heap.size + 1) 47 cs) ∧ Hid (cs.size = 32) ∧ Hid (∀ j, j < k → cs[j]? = (sqC 1)[j]?)) (fun i _ => (32 - intOf i).toNat)
  case atStart => exact ⟨1, rfl, by omega, by omega, hB, hb1, c0, hb2, hS1, hS2⟩
  case round =>
    obtain ⟨k, rfl, hk1, hk, HB, Hb1, cs, Hb2, Hs, Hc⟩ := hrel
    by_cases hlt : k < 32
    · have hfro : wr.frozen? ⟨w.heap.size + 1, k, none⟩ = false := Hb2.out.frozen _
      obtain ⟨v, hv⟩ : ∃ v, wr.cell? ⟨w.heap.size + 1, k, none⟩ = some v := by
        rw [Hb2.out.cell]
        have hlt2 : k < cs.size := by rw [Hs.out]; exact hlt
        exact ⟨cs[k], by simp [hlt2]⟩
      have Hv : Hid (Value.int .u32 (2 ^ (k - 1) % 4294967296) = Value.int .u32 ((Crcp.bits 1 (2 ^ k) : Nat) : Int)) := by
        obtain ⟨i, rfl⟩ : ∃ i, k = i + 1 := ⟨k - 1, by omega⟩
        have h1 := Crcp.two_pow_lt i (by omega)
        rw [Crcp.bit_succ i, show i + 1 - 1 = i by omega]
        show Value.int .u32 _ = Value.int .u32 _
        congr 1
        rw [show ((2 : Int) ^ i) = ((2 ^ i : Nat) : Int) by simp]
        generalize 2 ^ i = t at *
        omega
      go_wp2_with fail
      go_roundw
      case rel =>
        refine ⟨k + 1, by go_num, by omega, by omega, HB.out.setCell (p := ⟨w.heap.size + 1, k, none⟩) (Nat.le_succ _) _,
          Hb1.out.far (p := ⟨w.heap.size + 1, k, none⟩) (Nat.ne_of_lt (Nat.lt_succ_self _)) _, _, Hb2.out.set_ _ _, by simpa [Hid] using Hs.out, fun j hj => ?_⟩
        rw [Array.getElem?_setIfInBounds]
        by_cases hjk : k = j
        · subst hjk
          rw [if_pos rfl, if_pos (by rw [Hs.out]; exact hlt), sqC_at 1 k hlt, Hv.out]
        · rw [if_neg hjk]; exact Hc.out j (by omega)
      case measure => simp [intOf]; omega
    · have hcs : cs = sqC 1 := by
        apply Array.ext_getElem?
        intro j
        by_cases hj : j < 32
        · exact Hc.out j (by omega)
        · rw [Array.getElem?_eq_none (by rw [Hs.out]; omega), Array.getElem?_eq_none (by rw [sqC_size]; omega)]
      subst hcs
      have hsz := Lib.hid (info_sq 1)
      clear Hc Hs hz
      go_wp2_with (first
        | (refine wpList_load_row rfl 47 _ rfl (w.heap.size + 1) rfl 47 (sqC 1) (0, 0) _ Hb2.out Tryd.underlying47 rfl hsz.out ?_)
        | (refine wpList_store_row rfl 47 _ _ rfl w.heap.size (sqC 1) rfl rfl 47 zc32 Hb1.out hsz.out (zc32_size 1) (sqC_one 1) ?_))
      exact bodyPost_ret (results_cell_row rfl _ _ w.heap.size 47 (sqC 1) (0, 0) _ rfl (Hb1.out.row _) Tryd.underlying47 rfl hsz.out) rfl ⟨rfl, below_row HB.out (Nat.le_refl _) _⟩
end Go.Proofs.YtejbfndcaiphoaaDoor
