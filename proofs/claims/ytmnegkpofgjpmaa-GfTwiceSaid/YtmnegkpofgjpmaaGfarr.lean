/-
  The row of products: an array of 256 elements, walked.
-/
import Derived.Test.YtmnegkpofgjpmaaGfw
import Derived.Test.YtmnegkpofgjpmaaMem
import Derived.Outline
namespace Go.Proofs.Ytmnegkpofgjpmaa
open Go.RowKit

/-- 256 zeros -/
def zc256 : Array Value := Array.replicate 256 (.int .u8 0)
theorem info_arr : (Try.prog.info? 26).map (fun i => (i.zero, i.size)) = some (some (.agg zc256), 256) := by kernel_rfl
/-- a row's cells -/
def rowCells (c : Nat) : Array Value := ((List.range 256).map fun i => Value.int .u8 ((Gfp.gm c i : Nat) : Int)).toArray
theorem rowCells_size (c : Nat) : (rowCells c).size = 256 := by simp [rowCells]
theorem rowCells_at (c i : Nat) (h : i < 256) : (rowCells c)[i]? = some (.int .u8 ((Gfp.gm c i : Nat) : Int)) := by
  simp [rowCells, h]

theorem rowCells_one (c : Nat) : (rowCells c).all (·.oneCell') = true := by
  unfold rowCells
  rw [List.all_toArray, List.all_map]
  exact List.all_eq_true.2 fun _ _ => rfl
theorem zc256_size (c : Nat) : zc256.size = (rowCells c).size := by rw [rowCells_size]; simp [zc256]

set_option maxRecDepth 100000 in
theorem row_any (c : Nat) (w : World) (hc : c < 256) :
    Calls Try.prog 15 #[.int .u8 c] w fun e w' => e = .returned (.agg (rowCells c)) ∧ Below w.heap.size w w' := by
  have hz := (zero_of_info info_arr).1
  go_enter Try.func15, Try.ntmps15
  go_wp2_with fail
  have hB : Below w.heap.size w ((w.alloc (.cells zc256 26)).alloc (.cells zc256 26)) := ((Below.refl _ _).alloc (Nat.le_refl _) _).alloc (by simp) _
  have hb1 : Blk ((w.alloc (.cells zc256 26)).alloc (.cells zc256 26)) w.heap.size 26 zc256 := (Blk.new w _ _).alloc _
  have hb2 : Blk ((w.alloc (.cells zc256 26)).alloc (.cells zc256 26)) (w.heap.size + 1) 26 zc256 := heap_alloc2_new w _ _
  have hw : w.heap.size + 1 < ((w.alloc (.cells zc256 26)).alloc (.cells zc256 26)).heap.size := by simp
  generalize (w.alloc (.cells zc256 26)).alloc (.cells zc256 26) = w1 at *
  replace hB := Lib.hid hB; replace hb1 := Lib.hid hb1; replace hb2 := Lib.hid hb2
  go_loopw [4] (fun i wr => ∃ k : Nat, i = .int .i64 k ∧ 1 ≤ k ∧ k ≤ 256 ∧ Hid (Below w.heap.size w wr) ∧ Hid (Blk wr w.heap.size 26 zc256) ∧
      ∃ cs : Array Value, Hid (Blk wr (w.heap.size + 1) 26 cs) ∧ Hid (cs.size = 256) ∧ Hid (∀ j, j < k → cs[j]? = some (.int .u8 ((Gfp.gm c j : Nat) : Int)))) (fun i _ => (256 - intOf i).toNat)
  case atStart =>
    refine ⟨1, rfl, by omega, by omega, hB, hb1, zc256, hb2, by simp [zc256, Hid], fun j hj => ?_⟩
    obtain rfl : j = 0 := by omega
    rw [Gfp.gm_zero]; rfl
  case round =>
    obtain ⟨k, rfl, hk1, hk, HB, Hb1, cs, Hb2, Hs, Hc⟩ := hrel
    by_cases hlt : k < 256
    · have hcell : wr.cell? ⟨w.heap.size + 1, k / 2, none⟩ = some (.int .u8 ((Gfp.gm c (k / 2) : Nat) : Int)) := by
        rw [Hb2.out.cell, Hc.out _ (by omega)]
      have hfro : wr.frozen? ⟨w.heap.size + 1, k, none⟩ = false := Hb2.out.frozen _
      obtain ⟨v, hv⟩ : ∃ v, wr.cell? ⟨w.heap.size + 1, k, none⟩ = some v := by
        rw [Hb2.out.cell]
        have hlt2 : k < cs.size := by rw [Hs.out]; exact hlt
        exact ⟨cs[k], by simp [hlt2]⟩
      have hg := Gfp.gm_lt c (k / 2) hc
      have hxo := u8_xor_nat (Gfp.tw (Gfp.gm c (k / 2))) c (Gfp.tw_lt _) hc
      have hr := Gfp.gm_row c k hc hlt
      by_cases h1 : k % 2 = 1
      · have h2 : ((k : Int) % 2 == 1) = true := by rw [beq_iff_eq]; omega
        rw [if_pos h1] at hr
        replace hr := Lib.hid hr
        clear h1
        go_wp2_with fail; refine (twice_any _ _ hg).mono ?_; rintro e w' ⟨rfl, rfl⟩
        go_wp2_with fail
        clear hcell hfro hv
        go_roundw
        case rel =>
          refine ⟨k + 1, by go_num, by omega, by omega, (HB.out.setCell (p := ⟨w.heap.size + 1, k, none⟩) (Nat.le_succ _) _).setCell (p := ⟨w.heap.size + 1, k, none⟩) (Nat.le_succ _) _,
            (Hb1.out.far (p := ⟨w.heap.size + 1, k, none⟩) (Nat.ne_of_lt (Nat.lt_succ_self _)) _).far (p := ⟨w.heap.size + 1, k, none⟩) (Nat.ne_of_lt (Nat.lt_succ_self _)) _, _, (Hb2.out.set_ _ _).set_ _ _, by simpa [Hid] using Hs.out, fun j hj => ?_⟩
          rw [Array.getElem?_setIfInBounds, Array.getElem?_setIfInBounds]
          by_cases hjk : k = j
          · subst hjk
            simp [Hs.out, hlt, hr.out]
          · rw [if_neg hjk, if_neg hjk]; exact Hc.out j (by omega)
        case measure => simp [intOf]; omega
      · have h2 : ((k : Int) % 2 == 1) = false := by rw [beq_eq_false_iff_ne]; omega
        rw [if_neg h1] at hr
        replace hr := Lib.hid hr
        clear h1 hxo
        go_wp2_with fail; refine (twice_any _ _ hg).mono ?_; rintro e w' ⟨rfl, rfl⟩
        go_wp2_with fail
        clear hcell hfro hv
        go_roundw
        case rel =>
          refine ⟨k + 1, by go_num, by omega, by omega, HB.out.setCell (p := ⟨w.heap.size + 1, k, none⟩) (Nat.le_succ _) _,
            Hb1.out.far (p := ⟨w.heap.size + 1, k, none⟩) (Nat.ne_of_lt (Nat.lt_succ_self _)) _, _, Hb2.out.set_ _ _, by simpa [Hid] using Hs.out, fun j hj => ?_⟩
          rw [Array.getElem?_setIfInBounds]
          by_cases hjk : k = j
          · subst hjk
            simp [Hs.out, hlt, hr.out]
          · rw [if_neg hjk]; exact Hc.out j (by omega)
        case measure => simp [intOf]; omega
    · have hcs : cs = rowCells c := by
        apply Array.ext_getElem?
        intro j
        by_cases hj : j < 256
        · rw [Hc.out j (by omega), rowCells_at c j hj]
        · rw [Array.getElem?_eq_none (by rw [Hs.out]; omega), Array.getElem?_eq_none (by rw [rowCells_size]; omega)]
      subst hcs
      have hsz : (Try.prog.info? 26).map (·.size) = some (rowCells c).size := by rw [rowCells_size]; exact (zero_of_info info_arr).2
      replace hsz := Lib.hid hsz
      clear Hc Hs hz
      go_wp2_with (first
        | (refine wpList_load_row rfl 26 _ rfl (w.heap.size + 1) rfl 26 (rowCells c) (0, 0) _ Hb2.out Try.underlying26 rfl hsz.out ?_)
        | (refine wpList_store_row rfl 26 _ _ rfl w.heap.size (rowCells c) rfl rfl 26 zc256 Hb1.out hsz.out (zc256_size c) (rowCells_one c) ?_))
      exact bodyPost_ret (results_cell_row rfl _ _ w.heap.size 26 (rowCells c) (0, 0) _ rfl (Hb1.out.row _) Try.underlying26 rfl hsz.out) rfl ⟨rfl, below_row HB.out (Nat.le_refl _) _⟩
end Go.Proofs.Ytmnegkpofgjpmaa
