/-
  gf.Row and gf.Add, walked (in a space of names of their own).
-/
import Derived.Test.YtbokbndphpdgoaaGfa
import Derived.Test.YtbokbndphpdgoaaGfu
import Derived.Test.YtbokbndphpdgoaaMem
import Derived.Test.YtbokbndphpdgoaaApp
import Derived.Outline
import Derived.Deep.QuietTactic
import Derived.BigQuiet
import Derived.StillTailTactics
import Derived.Deep.RegionHeld3
namespace Go.Proofs.Ytbokbndphpdgoaa.Gfb
open Go.RowKit

/-- 256 zeros -/
def zc256 : Array Value := Array.replicate 256 (.int .u8 0)
theorem info_arr : (Try.prog.info? 69).map (fun i => (i.zero, i.size)) = some (some (.agg zc256), 256) := by kernel_rfl
/-- a row's cells -/
def rowCells (c : Nat) : Array Value := ((List.range 256).map fun i => Value.int .u8 ((Gfp.gm c i : Nat) : Int)).toArray
theorem rowCells_size (c : Nat) : (rowCells c).size = 256 := by simp [rowCells]
theorem rowCells_at (c i : Nat) (h : i < 256) : (rowCells c)[i]? = some (.int .u8 ((Gfp.gm c i : Nat) : Int)) := by
  simp [rowCells, h]

theorem rowCells_one (c : Nat) : (rowCells c).all (·.oneCell') = true := by
  unfold rowCells
  rw [List.all_toArray, List.all_map]
  exact List.all_eq_true.2 fun _ _ => rfl
theorem zc256_size (c : Nat) : zc256.size = (rowCells c).size := by rw [rowCells_size]; simp [zc256]

set_option maxRecDepth 100000 in
theorem row_any (c : Nat) (w : World) (hc : c < 256) :
    Calls Try.prog 48 #[.int .u8 c] w fun e w' => e = .returned (.agg (rowCells c)) ∧ Below w.heap.size w w' := by
  have hz := (zero_of_info info_arr).1
  go_enter Try.func48, Try.ntmps48
  go_wp2_with fail
  have hB : Below w.heap.size w ((w.alloc (.cells zc256 69)).alloc (.cells zc256 69)) := ((Below.refl _ _).alloc (Nat.le_refl _) _).alloc (by simp) _
  have hb1 : Blk ((w.alloc (.cells zc256 69)).alloc (.cells zc256 69)) w.heap.size 69 zc256 := (Blk.new w _ _).alloc _
  have hb2 : Blk ((w.alloc (.cells zc256 69)).alloc (.cells zc256 69)) (w.heap.size + 1) 69 zc256 := heap_alloc2_new w _ _
  have hw : w.heap.size + 1 < ((w.alloc (.cells zc256 69)).alloc (.cells zc256 69)).heap.size := by simp
  generalize (w.alloc (.cells zc256 69)).alloc (.cells zc256 69) = w1 at *
  replace hB := Lib.hid hB; replace hb1 := Lib.hid hb1; replace hb2 := Lib.hid hb2
  go_loopw [4] (fun i wr => ∃ k : Nat, i = .int .i64 k ∧ 1 ≤ k ∧ k ≤ 256 ∧ Hid (Below w.heap.size w wr) ∧ Hid (Blk wr w.heap.size 69 zc256) ∧
      ∃ cs : Array Value, Hid (Blk wr (w.heap.size + 1) 69 cs) ∧ Hid (cs.size = 256) ∧ Hid (∀ j, j < k → cs[j]? = some (.int .u8 ((Gfp.gm c j : Nat) : Int)))) (fun i _ => (256 - intOf i).toNat)
  case atStart =>
    refine ⟨1, rfl, by omega, by omega, hB, hb1, zc256, hb2, by simp [zc256, Hid], fun j hj => ?_⟩
    obtain rfl : j = 0 := by omega
    rw [Gfp.gm_zero]; rfl
  case round =>
    obtain ⟨k, rfl, hk1, hk, HB, Hb1, cs, Hb2, Hs, Hc⟩ := hrel
    by_cases hlt : k < 256
    · have hcell : wr.cell? ⟨w.heap.size + 1, k / 2, none⟩ = some (.int .u8 ((Gfp.gm c (k / 2) : Nat) : Int)) := by
        rw [Hb2.out.cell, Hc.out _ (by omega)]
      have hfro : wr.frozen? ⟨w.heap.size + 1, k, none⟩ = false := Hb2.out.frozen _
      obtain ⟨v, hv⟩ : ∃ v, wr.cell? ⟨w.heap.size + 1, k, none⟩ = some v := by
        rw [Hb2.out.cell]
        have hlt2 : k < cs.size := by rw [Hs.out]; exact hlt
        exact ⟨cs[k], by simp [hlt2]⟩
      have hg := Gfp.gm_lt c (k / 2) hc
      have hxo := u8_xor_nat (Gfp.tw (Gfp.gm c (k / 2))) c (Gfp.tw_lt _) hc
      have hr := Gfp.gm_row c k hc hlt
      by_cases h1 : k % 2 = 1
      · have h2 : ((k : Int) % 2 == 1) = true := by rw [beq_iff_eq]; omega
        rw [if_pos h1] at hr
        replace hr := Lib.hid hr
        clear h1
        go_wp2_with fail; refine (twice_any _ _ hg).mono ?_; rintro e w' ⟨rfl, rfl⟩
        go_wp2_with fail
        clear hcell hfro hv
        go_roundw
        case rel =>
          refine ⟨k + 1, by go_num, by omega, by omega, (HB.out.setCell (p := ⟨w.heap.size + 1, k, none⟩) (Nat.le_succ _) _).setCell (p := ⟨w.heap.size + 1, k, none⟩) (Nat.le_succ _) _,
            (Hb1.out.far (p := ⟨w.heap.size + 1, k, none⟩) (Nat.ne_of_lt (Nat.lt_succ_self _)) _).far (p := ⟨w.heap.size + 1, k, none⟩) (Nat.ne_of_lt (Nat.lt_succ_self _)) _, _, (Hb2.out.set_ _ _).set_ _ _, by simpa [Hid] using Hs.out, fun j hj => ?_⟩
          rw [Array.getElem?_setIfInBounds, Array.getElem?_setIfInBounds]
          by_cases hjk : k = j
          · subst hjk
            simp [Hs.out, hlt, hr.out]
          · rw [if_neg hjk, if_neg hjk]; exact Hc.out j (by omega)
        case measure => simp [intOf]; omega
      · have h2 : ((k : Int) % 2 == 1) = false := by rw [beq_eq_false_iff_ne]; omega
        rw [if_neg h1] at hr
        replace hr := Lib.hid hr
        clear h1 hxo
        go_wp2_with fail; refine (twice_any _ _ hg).mono ?_; rintro e w' ⟨rfl, rfl⟩
        go_wp2_with fail
        clear hcell hfro hv
        go_roundw
        case rel =>
          refine ⟨k + 1, by go_num, by omega, by omega, HB.out.setCell (p := ⟨w.heap.size + 1, k, none⟩) (Nat.le_succ _) _,
            Hb1.out.far (p := ⟨w.heap.size + 1, k, none⟩) (Nat.ne_of_lt (Nat.lt_succ_self _)) _, _, Hb2.out.set_ _ _, by simpa [Hid] using Hs.out, fun j hj => ?_⟩
          rw [Array.getElem?_setIfInBounds]
          by_cases hjk : k = j
          · subst hjk
            simp [Hs.out, hlt, hr.out]
          · rw [if_neg hjk]; exact Hc.out j (by omega)
        case measure => simp [intOf]; omega
    · have hcs : cs = rowCells c := by
        apply Array.ext_getElem?
        intro j
        by_cases hj : j < 256
        · rw [Hc.out j (by omega), rowCells_at c j hj]
        · rw [Array.getElem?_eq_none (by rw [Hs.out]; omega), Array.getElem?_eq_none (by rw [rowCells_size]; omega)]
      subst hcs
      have hsz : (Try.prog.info? 69).map (·.size) = some (rowCells c).size := by rw [rowCells_size]; exact (zero_of_info info_arr).2
      replace hsz := Lib.hid hsz
      clear Hc Hs hz
      go_wp2_with (first
        | (refine wpList_load_row rfl 69 _ rfl (w.heap.size + 1) rfl 69 (rowCells c) (0, 0) _ Hb2.out Try.underlying69 rfl hsz.out ?_)
        | (refine wpList_store_row rfl 69 _ _ rfl w.heap.size (rowCells c) rfl rfl 69 zc256 Hb1.out hsz.out (zc256_size c) (rowCells_one c) ?_))
      exact bodyPost_ret (results_cell_row rfl _ _ w.heap.size 69 (rowCells c) (0, 0) _ rfl (Hb1.out.row _) Try.underlying69 rfl hsz.out) rfl ⟨rfl, below_row HB.out (Nat.le_refl _) _⟩

theorem xor8 (a b : UInt8) : bits .xor .u8 (a.toNat : Int) (b.toNat : Int) = ((a ^^^ b).toNat : Int) := by
  rw [u8_xor_nat _ _ a.toNat_lt b.toNat_lt, UInt8.toNat_xor]
theorem getD_of {xs : List UInt8} {k : Nat} {b : UInt8} (h : xs[k]? = some b) : xs.getD k 0 = b := by
  rw [List.getD_eq_getElem?_getD, h]; rfl


theorem info_u8 : (Try.prog.info? 5).map (fun i => (i.zero, i.size, i.bytes)) = some (some (.int .u8 0), 1, 1) := by kernel_rfl

set_option maxRecDepth 100000 in
set_option maxHeartbeats 1000000 in
theorem add_any (A A' : Option Addr) (n n' c c' : Nat) (xs ys : List UInt8) (f : UInt8) (w : World) (h1 : Reads w w.heap.size 1 A n (xs.map B8)) (h2 : Reads w w.heap.size 1 A' n' (ys.map B8)) (hn : n ≤ 1000000000) (hn' : n' ≤ 1000000000) :
    Calls Try.prog 41 #[.slice A n c, .int .u8 (f.toNat : Int), .slice A' n' c'] w (SlErr 5 w (addR xs f ys) (eLen xs ys)) := by
  have l1 := h1.len
  have l2 := h2.len
  by_cases hnn : n = n'
  · subst hnn
    have Hr : Hid (addR xs f ys = addL xs f ys ∧ eLen xs ys = 0) := ⟨if_pos (by omega), if_pos (by omega)⟩
    have H1 := Lib.hid h1
    have H2 := Lib.hid h2
    have L1 := Lib.hid l1
    clear h1 h2 l1 l2
    obtain ⟨i0, hi, hz0, hz1, hz2⟩ := info_parts info_u8
    have hz := (zero_of_info info_arr).1
    have hsz : (Try.prog.info? 69).map (·.size) = some (rowCells f.toNat).size := by rw [rowCells_size]; exact (zero_of_info info_arr).2
    replace hsz := Lib.hid hsz
    replace hi := Lib.hid hi; replace hz0 := Lib.hid hz0; replace hz1 := Lib.hid hz1; replace hz2 := Lib.hid hz2
    go_enter Try.func41, Try.ntmps41
    go_wp2_with fail
    refine (row_any _ _ f.toNat_lt).mono ?_; rintro e w1 ⟨rfl, hB1⟩
    replace hB1 := Lib.hid hB1
    go_wp2_with (first
      | (refine wpList_store_box rfl 69 _ _ rfl w1.heap.size (rowCells f.toNat) rfl rfl 69 zc256 (Blk.new _ _ _) hsz.out (zc256_size _) (rowCells_one _) ?_; intro w2 hb2 hf2 hB2 hs2; replace hb2 := Lib.hid hb2; replace hf2 := Lib.hid hf2; replace hB2 := Lib.hid hB2; replace hs2 := Lib.hid hs2)
      | (at_make; refine wpList_make_full _ rfl _ _ 22 rfl w.heap.size 5 i0 (.int .u8 0) 1 Try.underlying22 hi.out hz0.out hz1.out .i64 .i64 _ _ n rfl rfl rfl rfl ?_ ?_ ?_ ?_; rotate_left 3; intro w3 hown3 hg3; replace hown3 := Lib.hid hown3; replace hg3 := Lib.hid hg3))
    rotate_left 1
    · rw [hz2.out]; omega
    · unfold maxLen; omega
    · rw [hs2.out]; simp; have := hB1.out.size; omega
    have hgl : w1.heap.size < w2.heap.size := by rw [hs2.out]; simp
    have hwl : w.heap.size ≤ w1.heap.size := hB1.out.size
    have hb3 : Hid (Blk w3 w1.heap.size 69 (rowCells f.toNat)) := hb2.out.grown hg3.out (by simp)
    have hB3 : Hid (Below w.heap.size w w3) := (hB2.out _ _ (hB1.out.alloc hwl _) hwl).grown hg3.out (by omega) (by simp)
    have hown : Hid (w3.ownsRow w.heap.size 5 1 (.slice (some ⟨w2.heap.size, 0, none⟩) n n) n (madeCells #[Value.int .u8 0] n).toList) := by
      have h := hown3.out; rw [Nat.mul_one] at h; exact h
    clear hown3 hg3 hb2 hf2 hB2 hs2 hB1 hz hi hz0 hz1 hz2
    generalize w2.heap.size = g at *
    generalize w1.heap.size = g1 at *
    go_loopw [24] (fun i wr => ∃ k : Nat, i = .int .i64 k ∧ k ≤ n ∧ Hid (Below w.heap.size w wr) ∧ Hid (Blk wr g1 69 (rowCells f.toNat)) ∧
      ∃ cs : List Value, Hid (wr.ownsRow w.heap.size 5 1 (.slice (some ⟨g, 0, none⟩) n n) n cs) ∧ Hid (∀ j, j < k → cs[j]? = some (B8 (xs.getD j 0 ^^^ fm f (ys.getD j 0))))) (fun i _ => n - (intOf i).toNat)
    case atStart => exact ⟨0, rfl, by omega, hB3, hb3, _, hown, fun j hj => absurd hj (by omega)⟩
    case round =>
      obtain ⟨k, rfl, hk, HB, Hb, cs, Ho, Hc⟩ := hrel
      by_cases hlt : k < n
      · obtain ⟨ad, x, rfl, hb, hx, hcx⟩ := (H1.out.below HB.out).byte hlt
        obtain ⟨ad', y, rfl, hb', hy, hcy⟩ := (H2.out.below HB.out).byte hlt
        have hrow : wr.cell? ⟨g1, y.toNat, none⟩ = some (.int .u8 ((fm f y).toNat : Int)) := by
          rw [Hb.out.cell, rowCells_at _ _ y.toNat_lt, fm_toNat]
        have hfro : wr.frozen? ⟨g, k, none⟩ = false := Ho.out.frozenAt k
        obtain ⟨v, hv⟩ : ∃ v, wr.cell? ⟨g, k, none⟩ = some v := by
          rw [Ho.out.cellAt k (by omega)]
          have hl : k < cs.length := by have := Ho.out.1; omega
          exact ⟨cs[k], List.getElem?_eq_getElem hl⟩
        have Hv : Hid (xs.getD k 0 = x ∧ ys.getD k 0 = y) := ⟨getD_of hx, getD_of hy⟩
        have hxo := xor8 x (fm f y)
        have bx : x.toNat < 256 := x.toNat_lt
        have by' : y.toNat < 256 := y.toNat_lt
        clear hx hy hb hb'
        go_wp2_with fail
        clear hrow hfro hv hcx hcy
        go_roundw
        case rel =>
          obtain ⟨ho2, hg2⟩ := Ho.out.stored k (.int .u8 ((x.toNat ^^^ (fm f y).toNat : Nat) : Int))
          refine ⟨k + 1, by go_num, by omega, HB.out.setCell (p := ⟨g, k, none⟩) (by show w.heap.size ≤ g; omega) _, Hb.out.far (p := ⟨g, k, none⟩) (by show g1 ≠ g; omega) _, _, ho2, fun j hj => ?_⟩
          by_cases hjk : k = j
          · subst hjk
            have hl : k < cs.length := by have := Ho.out.1; omega
            rw [List.getElem?_set_self hl, Hv.out.1, Hv.out.2, B8, UInt8.toNat_xor]
          · rw [List.getElem?_set_ne hjk]; exact Hc.out j (by omega)
        case measure => simp [intOf]; omega
      · obtain rfl : k = n := by omega
        have hcs : cs = (addL xs f ys).map B8 := by
          apply List.ext_getElem?
          intro j
          by_cases hj : j < k
          · rw [Hc.out j hj, List.getElem?_map, addL_getElem? _ _ _ _ (by rw [L1.out]; exact hj)]; rfl
          · rw [List.getElem?_eq_none (by have := Ho.out.1; omega), List.getElem?_eq_none (by rw [List.length_map, addL_length, L1.out]; omega)]
        subst hcs
        go_wp2_with fail
        go_ret2
        have hlen : (addL xs f ys).length = k := by rw [addL_length, L1.out]
        refine ⟨some ⟨g, 0, none⟩, k, ?_, ?_⟩
        · rw [Hr.out.1, Hr.out.2, hlen]; rfl
        · rw [Hr.out.1, hlen]; exact ⟨Ho.out, HB.out⟩
  · have he : ((n : Int) != (n' : Int)) = true := by rw [bne_iff_ne]; omega
    have Hr : Hid (addR xs f ys = [] ∧ eLen xs ys = 13) := ⟨if_neg (by omega), if_neg (by omega)⟩
    clear hnn h1 h2 l1 l2
    go_enter Try.func41, Try.ntmps41
    go_wp2_with fail
    go_ret2
    exact ⟨none, 0, by rw [Hr.out.1, Hr.out.2]; rfl, by rw [Hr.out.1]; exact Fresh.nil w _⟩


end Go.Proofs.Ytbokbndphpdgoaa.Gfb
