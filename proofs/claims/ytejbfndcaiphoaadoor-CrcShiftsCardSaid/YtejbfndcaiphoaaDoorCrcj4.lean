/-
  The walk of the step of many shifts, taken twice.
-/
import Derived.Test.YtejbfndcaiphoaaDoorCrcj3
namespace Go.Proofs.YtejbfndcaiphoaaDoor
open Go.RowKit

set_option maxRecDepth 100000 in
theorem twice_any (m : Nat) (w : World) : Calls Tryd.prog 27 #[.agg (sqC m)] w fun e w' => e = .returned (.agg (sqC (m + m))) ∧ Below w.heap.size w w' := by
  have hz := (zero_of_info info_sqz).1
  have hsz := Lib.hid (info_sq m)
  have hat := fun i h => Lib.hid (sqC_at m i h)
  have O := fun x w h => Lib.hid (of_any m x w h)
  have hm : sqC m = sqC m := rfl
  go_enter Tryd.func27, Tryd.ntmps27
  go_wp2_with (refine wpList_load_row rfl 47 _ rfl w.heap.size rfl 47 (sqC m) (0, 0) _ (((Blk.new w _ _).alloc _).alloc _) Tryd.underlying47 rfl hsz.out ?_)
  have hB : Below w.heap.size w (((w.alloc (.cells (sqC m) 47)).alloc (.cells zc32 47)).alloc (.cells zc32 47)) := (((Below.refl _ _).alloc (Nat.le_refl _) _).alloc (by simp) _).alloc (by simp; omega) _
  have hb0 : Blk (((w.alloc (.cells (sqC m) 47)).alloc (.cells zc32 47)).alloc (.cells zc32 47)) w.heap.size 47 (sqC m) := ((Blk.new w _ _).alloc _).alloc _
  have hb1 : Blk (((w.alloc (.cells (sqC m) 47)).alloc (.cells zc32 47)).alloc (.cells zc32 47)) (w.heap.size + 1) 47 zc32 := Blk.alloc (show Blk _ _ _ _ from heap_alloc2_new w _ _) _
  have hb2 : Blk (((w.alloc (.cells (sqC m) 47)).alloc (.cells zc32 47)).alloc (.cells zc32 47)) (w.heap.size + 1 + 1) 47 zc32 := by
    have h := Blk.new ((w.alloc (.cells (sqC m) 47)).alloc (.cells zc32 47)) 47 zc32
    simpa using h
  have hw : w.heap.size + 1 + 1 < (((w.alloc (.cells (sqC m) 47)).alloc (.cells zc32 47)).alloc (.cells zc32 47)).heap.size := by simp
  generalize ((w.alloc (.cells (sqC m) 47)).alloc (.cells zc32 47)).alloc (.cells zc32 47) = w1 at *
  replace hB := Lib.hid hB; replace hb1 := Lib.hid hb1; replace hb2 := Lib.hid hb2; replace hb0 := Lib.hid hb0
  go_loopw [7] (fun i wr => ∃ k : Nat, i = .int .i64 k ∧ k ≤ 32 ∧ Hid (Below w.heap.size w wr) ∧ Hid (Blk wr w.heap.size 47 (sqC m)) ∧ Hid (Blk wr (w.heap.size + 1) 47 zc32) ∧
      ∃ cs : Array Value, Hid (Blk wr (w.heap.size + 1 + 1) 47 cs) ∧ Hid (cs.size = 32) ∧ Hid (∀ j, j < k → cs[j]? = (sqC (m + m))[j]?)) (fun i _ => (32 - intOf i).toNat)
  case atStart => exact ⟨0, rfl, by omega, hB, hb0, hb1, zc32, hb2, (by simp [zc32, Hid]), fun j hj => absurd hj (by omega)⟩
  case round =>
    obtain ⟨k, rfl, hk, HB, Hb0, Hb1, cs, Hb2, Hs, Hc⟩ := hrel
    by_cases hlt : k < 32
    · have hidx := fun w' => run_index_cells (P := Tryd.prog) (w := w') 47 25 32 (sqC m) .i64 k _ Tryd.underlying47 hlt (by kernel_rfl) (hat k hlt).out Tryd.underlying25
      have hb : Crcp.bits m (2 ^ k) < 4294967296 := Crcp.bits_lt _ _ (Crcp.two_pow_lt k hlt)
      have H1 := fun w => O _ w hb
      have Hv : Hid ((sqC (m + m))[k]? = some (Value.int .u32 ((Crcp.bits m (Crcp.bits m (2 ^ k)) : Nat) : Int))) := by
        rw [sqC_at _ _ hlt, Crcp.bits_add]; rfl
      generalize Crcp.bits m (2 ^ k) = v at *
      have hlt' : (k : Int) < 32 := by omega
      go_wp2_with (refine wpList_load_row rfl 47 _ rfl w.heap.size rfl 47 (sqC m) (0, 0) _ Hb0.out Tryd.underlying47 rfl hsz.out ?_)
      refine (H1 _).out.mono ?_; rintro e w2 ⟨rfl, hB2⟩
      have hlw : w.heap.size + 1 + 1 < wr.heap.size := Hb2.out.lt
      have HB' := Lib.hid (HB.out.trans (hB2.mono HB.out.size))
      have Hb0' := Lib.hid (Hb0.out.below hB2 (by omega))
      have Hb1' := Lib.hid (Hb1.out.below hB2 (by omega))
      have Hb2' := Lib.hid (Hb2.out.below hB2 hlw)
      clear hB2 HB Hb0 Hb1 Hb2
      have hfro : w2.frozen? ⟨w.heap.size + 1 + 1, k, none⟩ = false := Hb2'.out.frozen _
      obtain ⟨u, hu⟩ : ∃ u, w2.cell? ⟨w.heap.size + 1 + 1, k, none⟩ = some u := by
        rw [Hb2'.out.cell]
        have hlt2 : k < cs.size := by rw [Hs.out]; exact hlt
        exact ⟨cs[k], by simp [hlt2]⟩
      go_wp2_with fail
      clear hfro hu hidx
      go_roundw
      case rel =>
        refine ⟨k + 1, by go_num, by omega, HB'.out.setCell (p := ⟨w.heap.size + 1 + 1, k, none⟩) (by show w.heap.size ≤ w.heap.size + 1 + 1; omega) _,
          Hb0'.out.far (p := ⟨w.heap.size + 1 + 1, k, none⟩) (by show w.heap.size ≠ w.heap.size + 1 + 1; omega) _, Hb1'.out.far (p := ⟨w.heap.size + 1 + 1, k, none⟩) (by show w.heap.size + 1 ≠ w.heap.size + 1 + 1; omega) _, _, Hb2'.out.set_ _ _, by simpa [Hid] using Hs.out, fun j hj => ?_⟩
        rw [Array.getElem?_setIfInBounds]
        by_cases hjk : k = j
        · subst hjk
          rw [if_pos rfl, if_pos (by rw [Hs.out]; exact hlt), Hv.out]
        · rw [if_neg hjk]; exact Hc.out j (by omega)
      case measure => simp [intOf]; omega
    · have hcs : cs = sqC (m + m) := by
        apply Array.ext_getElem?
        intro j
        by_cases hj : j < 32
        · exact Hc.out j (by omega)
        · rw [Array.getElem?_eq_none (by rw [Hs.out]; omega), Array.getElem?_eq_none (by rw [sqC_size]; omega)]
      subst hcs
      have hsz2 := Lib.hid (info_sq (m + m))
      clear Hc Hs hz hat O
      go_wp2_with (first
        | (refine wpList_load_row rfl 47 _ rfl (w.heap.size + 1 + 1) rfl 47 (sqC (m + m)) (0, 0) _ Hb2.out Tryd.underlying47 rfl hsz2.out ?_)
        | (refine wpList_store_row rfl 47 _ _ rfl (w.heap.size + 1) (sqC (m + m)) rfl rfl 47 zc32 Hb1.out hsz2.out (zc32_size (m + m)) (sqC_one (m + m)) ?_))
      exact bodyPost_ret (results_cell_row rfl _ _ (w.heap.size + 1) 47 (sqC (m + m)) (0, 0) _ rfl (Hb1.out.row _) Tryd.underlying47 rfl hsz2.out) rfl ⟨rfl, below_row HB.out (Nat.le_succ _) _⟩
end Go.Proofs.YtejbfndcaiphoaaDoor
