/-
  The functions of gf and firkinref04 over bytes, walked: Dot and Add.
-/
import Derived.Test.YtmnegkpofgjpmaaGfarr
import Derived.Test.YtmnegkpofgjpmaaGfu
import Derived.Deep.QuietTactic
import Derived.BigQuiet
import Derived.StillTailTactics
import Derived.Deep.RegionHeld3
import Derived.Test.YtmnegkpofgjpmaaApp
namespace Go.Proofs.Ytmnegkpofgjpmaa
open Go.RowKit

theorem quiet_left {P : Program} {f : FuncId} {args : Array Value} {w : World} {n : Nat} {v : Value}
    (h : Calls P f args (w.drewN n) fun e w' => e = .returned v ∧ w.drewN n = w') : Calls P f args (w.drewN n) fun e w' => e = .returned v ∧ ∃ m, w' = w.drewN m :=
  h.mono fun _ _ ⟨he, hm⟩ => ⟨he, n, hm.symm⟩

theorem mul8_any (a b : UInt8) (w : World) :
    Calls Try.prog 13 #[.int .u8 (a.toNat : Int), .int .u8 (b.toNat : Int)] w fun e w' => e = .returned (.int .u8 ((fm a b).toNat : Int)) ∧ w = w' := by
  rw [fm_toNat]; exact mul_any _ _ _ a.toNat_lt b.toNat_lt
theorem refMul8_any (a b : UInt8) (w : World) :
    Calls Try.prog 14 #[.int .u8 (a.toNat : Int), .int .u8 (b.toNat : Int)] w fun e w' => e = .returned (.int .u8 ((fm a b).toNat : Int)) ∧ w = w' := by
  rw [fm_toNat]; exact refMul_any _ _ _ a.toNat_lt b.toNat_lt
theorem xor8 (a b : UInt8) : bits .xor .u8 (a.toNat : Int) (b.toNat : Int) = ((a ^^^ b).toNat : Int) := by
  rw [u8_xor_nat _ _ a.toNat_lt b.toNat_lt, UInt8.toNat_xor]
theorem getD_of {xs : List UInt8} {k : Nat} {b : UInt8} (h : xs[k]? = some b) : xs.getD k 0 = b := by
  rw [List.getD_eq_getElem?_getD, h]; rfl

set_option maxRecDepth 100000 in
theorem dot_any (A A' : Option Addr) (n n' c c' : Nat) (xs ys : List UInt8) (w : World) (h1 : Reads w w.heap.size 1 A n (xs.map B8)) (h2 : Reads w w.heap.size 1 A' n' (ys.map B8)) (hn : n ≤ 1000000000) (hn' : n' ≤ 1000000000) :
    Calls Try.prog 21 #[.slice A n c, .slice A' n' c'] w fun e w' => e = .returned (.tuple #[.int .u8 ((dotR xs ys).toNat : Int), .int .i64 (eLen xs ys)]) ∧ w = w' := by
  have l1 := h1.len
  have l2 := h2.len
  by_cases hnn : n = n'
  · subst hnn
    have Hr : Hid (dotR xs ys = dotF xs ys n ∧ eLen xs ys = 0) := ⟨by rw [dotR, if_pos (by omega), l1], if_pos (by omega)⟩
    have H1 := Lib.hid h1
    have H2 := Lib.hid h2
    clear h1 h2 l1 l2
    go_enter Try.func21, Try.ntmps21
    go_wp2_with fail
    go_loop [6, 16] (fun o i => ∃ k : Nat, o = .int .u8 ((dotF xs ys k).toNat : Int) ∧ i = .int .i64 k ∧ k ≤ n) (fun _ i => n - (intOf i).toNat)
    case atStart => exact ⟨0, rfl, rfl, by omega⟩
    case round =>
      obtain ⟨k, rfl, rfl, hk⟩ := hrel
      by_cases hlt : k < n
      · obtain ⟨ad, x, rfl, hb, hx, hcx⟩ := H1.out.byte hlt
        obtain ⟨ad', y, rfl, hb', hy, hcy⟩ := H2.out.byte hlt
        have Hd : Hid (dotF xs ys (k + 1) = dotF xs ys k ^^^ fm x y) := by
          show dotF xs ys k ^^^ fm (xs.getD k 0) (ys.getD k 0) = _
          rw [getD_of hx, getD_of hy]
        have hxo := xor8 (dotF xs ys k) (fm x y)
        have bx := x.toNat_lt
        have by' := y.toNat_lt
        clear hx hy hb hb'
        go_wp2_with fail; refine (mul8_any x y _).mono ?_; rintro e w' ⟨rfl, rfl⟩
        go_wp2_with fail
        go_round
        case rel => exact ⟨k + 1, by rw [Hd.out, UInt8.toNat_xor], by go_num, by omega⟩
        case measure => simp [intOf]; omega
      · obtain rfl : k = n := by omega
        go_wp2_with fail
        go_ret2
        exact ⟨ret_two (by rw [Hr.out.1]) (by rw [Hr.out.2]), rfl⟩
  · have he : ((n : Int) != (n' : Int)) = true := by rw [bne_iff_ne]; omega
    have Hr : Hid (dotR xs ys = 0 ∧ eLen xs ys = 13) := ⟨if_neg (by omega), if_neg (by omega)⟩
    clear hnn h1 h2 l1 l2
    go_enter Try.func21, Try.ntmps21
    go_wp2_with fail
    go_ret2
    exact ⟨ret_two (by rw [Hr.out.1]; rfl) (by rw [Hr.out.2]), rfl⟩

set_option maxRecDepth 100000 in
theorem refDot_any (A A' : Option Addr) (n n' c c' : Nat) (xs ys : List UInt8) (w : World) (h1 : Reads w w.heap.size 1 A n (xs.map B8)) (h2 : Reads w w.heap.size 1 A' n' (ys.map B8)) (hn : n ≤ 1000000000) (hn' : n' ≤ 1000000000) :
    Calls Try.prog 22 #[.slice A n c, .slice A' n' c'] w fun e w' => e = .returned (.tuple #[.int .u8 ((dotR xs ys).toNat : Int), .int .i64 (eLen xs ys)]) ∧ Dr w w' := by
  have l1 := h1.len
  have l2 := h2.len
  by_cases hnn : n = n'
  · subst hnn
    have Hr : Hid (dotR xs ys = dotF xs ys n ∧ eLen xs ys = 0) := ⟨by rw [dotR, if_pos (by omega), l1], if_pos (by omega)⟩
    have H1 := Lib.hid h1
    have H2 := Lib.hid h2
    clear h1 h2 l1 l2
    go_enter Try.func22, Try.ntmps22
    go_wp2_with fail
    go_loopw [6, 7] (fun o i wr => ∃ k : Nat, o = .int .u8 ((dotF xs ys k).toNat : Int) ∧ i = .int .i64 k ∧ k ≤ n ∧ Hid (Dr w wr)) (fun _ i _ => n - (intOf i).toNat)
    case atStart => exact ⟨0, rfl, rfl, by omega, Dr.refl w⟩
    case round =>
      obtain ⟨k, rfl, rfl, hk, HD⟩ := hrel
      by_cases hlt : k < n
      · obtain ⟨ad, x, rfl, hb, hx, hcx⟩ := (HD.out.reads H1.out).byte hlt
        obtain ⟨ad', y, rfl, hb', hy, hcy⟩ := (HD.out.reads H2.out).byte hlt
        have Hd : Hid (dotF xs ys (k + 1) = dotF xs ys k ^^^ fm x y) := by
          show dotF xs ys k ^^^ fm (xs.getD k 0) (ys.getD k 0) = _
          rw [getD_of hx, getD_of hy]
        have hxo := xor8 (dotF xs ys k) (fm x y)
        have bx := x.toNat_lt
        have by' := y.toNat_lt
        clear hx hy hb hb'
        have hlt' : (k : Int) < (n : Int) := by omega
        go_wp2_with fail
        go_quiet ((go_at_call 14; exact quiet_left (refMul8_any x y _)))
        go_wp2_with fail
        go_roundw
        case rel => exact ⟨k + 1, by rw [Hd.out, UInt8.toNat_xor], by go_num, by omega, HD.out.drewN _⟩
        case measure => simp [intOf]; omega
      · obtain rfl : k = n := by omega
        go_wp2_with fail
        go_ret2
        exact ⟨ret_two (by rw [Hr.out.1]) (by rw [Hr.out.2]), HD.out⟩
  · have he : ((n : Int) != (n' : Int)) = true := by rw [bne_iff_ne]; omega
    have Hr : Hid (dotR xs ys = 0 ∧ eLen xs ys = 13) := ⟨if_neg (by omega), if_neg (by omega)⟩
    clear hnn h1 h2 l1 l2
    go_enter Try.func22, Try.ntmps22
    go_wp2_with fail
    go_ret2
    exact ⟨ret_two (by rw [Hr.out.1]; rfl) (by rw [Hr.out.2]), Dr.refl w⟩

theorem info_u8 : (Try.prog.info? 5).map (fun i => (i.zero, i.size, i.bytes)) = some (some (.int .u8 0), 1, 1) := by kernel_rfl

set_option maxRecDepth 100000 in
set_option maxHeartbeats 1000000 in
theorem add_any (A A' : Option Addr) (n n' c c' : Nat) (xs ys : List UInt8) (f : UInt8) (w : World) (h1 : Reads w w.heap.size 1 A n (xs.map B8)) (h2 : Reads w w.heap.size 1 A' n' (ys.map B8)) (hn : n ≤ 1000000000) (hn' : n' ≤ 1000000000) :
    Calls Try.prog 18 #[.slice A n c, .int .u8 (f.toNat : Int), .slice A' n' c'] w (SlErr 5 w (addR xs f ys) (eLen xs ys)) := by
  have l1 := h1.len
  have l2 := h2.len
  by_cases hnn : n = n'
  · subst hnn
    have Hr : Hid (addR xs f ys = addL xs f ys ∧ eLen xs ys = 0) := ⟨if_pos (by omega), if_pos (by omega)⟩
    have H1 := Lib.hid h1
    have H2 := Lib.hid h2
    have L1 := Lib.hid l1
    clear h1 h2 l1 l2
    obtain ⟨i0, hi, hz0, hz1, hz2⟩ := info_parts info_u8
    have hz := (zero_of_info info_arr).1
    have hsz : (Try.prog.info? 26).map (·.size) = some (rowCells f.toNat).size := by rw [rowCells_size]; exact (zero_of_info info_arr).2
    replace hsz := Lib.hid hsz
    replace hi := Lib.hid hi; replace hz0 := Lib.hid hz0; replace hz1 := Lib.hid hz1; replace hz2 := Lib.hid hz2
    go_enter Try.func18, Try.ntmps18
    go_wp2_with fail
    refine (row_any _ _ f.toNat_lt).mono ?_; rintro e w1 ⟨rfl, hB1⟩
    replace hB1 := Lib.hid hB1
    go_wp2_with (first
      | (refine wpList_store_box rfl 26 _ _ rfl w1.heap.size (rowCells f.toNat) rfl rfl 26 zc256 (Blk.new _ _ _) hsz.out (zc256_size _) (rowCells_one _) ?_; intro w2 hb2 hf2 hB2 hs2; replace hb2 := Lib.hid hb2; replace hf2 := Lib.hid hf2; replace hB2 := Lib.hid hB2; replace hs2 := Lib.hid hs2)
      | (at_make; refine wpList_make_full _ rfl _ _ 33 rfl w.heap.size 5 i0 (.int .u8 0) 1 Try.underlying33 hi.out hz0.out hz1.out .i64 .i64 _ _ n rfl rfl rfl rfl ?_ ?_ ?_ ?_; rotate_left 3; intro w3 hown3 hg3; replace hown3 := Lib.hid hown3; replace hg3 := Lib.hid hg3))
    rotate_left 1
    · rw [hz2.out]; omega
    · unfold maxLen; omega
    · rw [hs2.out]; simp; have := hB1.out.size; omega
    have hgl : w1.heap.size < w2.heap.size := by rw [hs2.out]; simp
    have hwl : w.heap.size ≤ w1.heap.size := hB1.out.size
    have hb3 : Hid (Blk w3 w1.heap.size 26 (rowCells f.toNat)) := hb2.out.grown hg3.out (by simp)
    have hB3 : Hid (Below w.heap.size w w3) := (hB2.out _ _ (hB1.out.alloc hwl _) hwl).grown hg3.out (by omega) (by simp)
    have hown : Hid (w3.ownsRow w.heap.size 5 1 (.slice (some ⟨w2.heap.size, 0, none⟩) n n) n (madeCells #[Value.int .u8 0] n).toList) := by
      have h := hown3.out; rw [Nat.mul_one] at h; exact h
    clear hown3 hg3 hb2 hf2 hB2 hs2 hB1 hz hi hz0 hz1 hz2
    generalize w2.heap.size = g at *
    generalize w1.heap.size = g1 at *
    go_loopw [24] (fun i wr => ∃ k : Nat, i = .int .i64 k ∧ k ≤ n ∧ Hid (Below w.heap.size w wr) ∧ Hid (Blk wr g1 26 (rowCells f.toNat)) ∧
      ∃ cs : List Value, Hid (wr.ownsRow w.heap.size 5 1 (.slice (some ⟨g, 0, none⟩) n n) n cs) ∧ Hid (∀ j, j < k → cs[j]? = some (B8 (xs.getD j 0 ^^^ fm f (ys.getD j 0))))) (fun i _ => n - (intOf i).toNat)
    case atStart => exact ⟨0, rfl, by omega, hB3, hb3, _, hown, fun j hj => absurd hj (by omega)⟩
    case round =>
      obtain ⟨k, rfl, hk, HB, Hb, cs, Ho, Hc⟩ := hrel
      by_cases hlt : k < n
      · obtain ⟨ad, x, rfl, hb, hx, hcx⟩ := (H1.out.below HB.out).byte hlt
        obtain ⟨ad', y, rfl, hb', hy, hcy⟩ := (H2.out.below HB.out).byte hlt
        have hrow : wr.cell? ⟨g1, y.toNat, none⟩ = some (.int .u8 ((fm f y).toNat : Int)) := by
          rw [Hb.out.cell, rowCells_at _ _ y.toNat_lt, fm_toNat]
        have hfro : wr.frozen? ⟨g, k, none⟩ = false := Ho.out.frozenAt k
        obtain ⟨v, hv⟩ : ∃ v, wr.cell? ⟨g, k, none⟩ = some v := by
          rw [Ho.out.cellAt k (by omega)]
          have hl : k < cs.length := by have := Ho.out.1; omega
          exact ⟨cs[k], List.getElem?_eq_getElem hl⟩
        have Hv : Hid (xs.getD k 0 = x ∧ ys.getD k 0 = y) := ⟨getD_of hx, getD_of hy⟩
        have hxo := xor8 x (fm f y)
        have bx : x.toNat < 256 := x.toNat_lt
        have by' : y.toNat < 256 := y.toNat_lt
        clear hx hy hb hb'
        go_wp2_with fail
        clear hrow hfro hv hcx hcy
        go_roundw
        case rel =>
          obtain ⟨ho2, hg2⟩ := Ho.out.stored k (.int .u8 ((x.toNat ^^^ (fm f y).toNat : Nat) : Int))
          refine ⟨k + 1, by go_num, by omega, HB.out.setCell (p := ⟨g, k, none⟩) (by show w.heap.size ≤ g; omega) _, Hb.out.far (p := ⟨g, k, none⟩) (by show g1 ≠ g; omega) _, _, ho2, fun j hj => ?_⟩
          by_cases hjk : k = j
          · subst hjk
            have hl : k < cs.length := by have := Ho.out.1; omega
            rw [List.getElem?_set_self hl, Hv.out.1, Hv.out.2, B8, UInt8.toNat_xor]
          · rw [List.getElem?_set_ne hjk]; exact Hc.out j (by omega)
        case measure => simp [intOf]; omega
      · obtain rfl : k = n := by omega
        have hcs : cs = (addL xs f ys).map B8 := by
          apply List.ext_getElem?
          intro j
          by_cases hj : j < k
          · rw [Hc.out j hj, List.getElem?_map, addL_getElem? _ _ _ _ (by rw [L1.out]; exact hj)]; rfl
          · rw [List.getElem?_eq_none (by have := Ho.out.1; omega), List.getElem?_eq_none (by rw [List.length_map, addL_length, L1.out]; omega)]
        subst hcs
        go_wp2_with fail
        go_ret2
        have hlen : (addL xs f ys).length = k := by rw [addL_length, L1.out]
        refine ⟨some ⟨g, 0, none⟩, k, ?_, ?_⟩
        · rw [Hr.out.1, Hr.out.2, hlen]; rfl
        · rw [Hr.out.1, hlen]; exact ⟨Ho.out, HB.out⟩
  · have he : ((n : Int) != (n' : Int)) = true := by rw [bne_iff_ne]; omega
    have Hr : Hid (addR xs f ys = [] ∧ eLen xs ys = 13) := ⟨if_neg (by omega), if_neg (by omega)⟩
    clear hnn h1 h2 l1 l2
    go_enter Try.func18, Try.ntmps18
    go_wp2_with fail
    go_ret2
    exact ⟨none, 0, by rw [Hr.out.1, Hr.out.2]; rfl, by rw [Hr.out.1]; exact Fresh.nil w _⟩

theorem still_of {P : Program} {f : FuncId} {args : Array Value} {w : World} {v : Value} (h : Calls P f args w fun e w' => e = .returned v ∧ w = w') : Calls P f args w fun e w' => e = .returned v ∧ w' = w :=
  h.mono fun _ _ ⟨he, hw⟩ => ⟨he, hw.symm⟩

set_option maxRecDepth 100000 in
set_option maxHeartbeats 1000000 in
theorem refAdd_any (A A' : Option Addr) (n n' c c' : Nat) (xs ys : List UInt8) (f : UInt8) (w : World) (h1 : Reads w w.heap.size 1 A n (xs.map B8)) (h2 : Reads w w.heap.size 1 A' n' (ys.map B8)) (hn : n ≤ 1000000000) (hn' : n' ≤ 1000000000) :
    Calls Try.prog 20 #[.slice A n c, .int .u8 (f.toNat : Int), .slice A' n' c'] w (SlErr 5 w (addR xs f ys) (eLen xs ys)) := by
  have l1 := h1.len
  have l2 := h2.len
  by_cases hnn : n = n'
  · subst hnn
    have Hr : Hid (addR xs f ys = addL xs f ys ∧ eLen xs ys = 0) := ⟨if_pos (by omega), if_pos (by omega)⟩
    have H1 := Lib.hid h1
    have H2 := Lib.hid h2
    have L1 := Lib.hid l1
    clear h1 h2 l1 l2
    obtain ⟨i0, hi, hz0, hz1, hz2⟩ := info_parts info_u8
    replace hi := Lib.hid hi; replace hz0 := Lib.hid hz0; replace hz1 := Lib.hid hz1; replace hz2 := Lib.hid hz2
    go_enter Try.func20, Try.ntmps20
    go_wp2_with fail
    go_loopw [8, 9] (fun v i wr => ∃ (k c0 : Nat) (A0 : Option Addr), v = .slice A0 k c0 ∧ i = .int .i64 k ∧ k ≤ n ∧ Hid (Below w.heap.size w wr) ∧
      Hid (wr.ownsRow w.heap.size 5 1 (.slice A0 k c0) k ((addL (xs.take k) f ys).map B8))) (fun _ i _ => n - (intOf i).toNat)
    case atStart => exact ⟨0, 0, none, rfl, rfl, by omega, Below.refl _ _, World.ownsRow_nil w _ _ 1⟩
    case round =>
      obtain ⟨k, c0, A0, rfl, rfl, hk, HB, Ho⟩ := hrel
      by_cases hlt : k < n
      · obtain ⟨ad, x, rfl, hb, hx, hcx⟩ := (H1.out.below HB.out).byte hlt
        obtain ⟨ad', y, rfl, hb', hy, hcy⟩ := (H2.out.below HB.out).byte hlt
        have Hv : Hid (addL (xs.take (k + 1)) f ys = addL (xs.take k) f ys ++ [x ^^^ fm f y]) := by
          rw [addL_snoc _ _ _ _ _ hx, getD_of hy]; rfl
        have hxo := xor8 x (fm f y)
        rw [UInt8.toNat_xor] at hxo
        have bx := x.toNat_lt
        have by' := y.toNat_lt
        have hlt' : (k : Int) < (n : Int) := by omega
        have hb1 : k + 1 ≤ maxLen := by unfold maxLen; omega
        have hb2 : (k + 1) * 1 ≤ 140737488355328 := by omega
        have hb4 : w.heap.size ≤ wr.heap.size := HB.out.size
        have hb3 : ∀ o, w.heap.size ≤ (wr.alloc o).drew.heap.size := fun o => by
          show w.heap.size ≤ (wr.alloc o).heap.size
          simp; omega
        go_wp2_with fail
        go_region_held3 (fun w' => w'.cell? (ad.add k) = some (.int .u8 (x.toNat : Int)) ∧ w'.cell? (ad'.add k) = some (.int .u8 (y.toNat : Int)))
          (first | go_keep | exact ⟨hk1, hk2⟩)
          (first
            | (go_at_call 14; refine (refMul8_any f y _).mono ?_; rintro e w' ⟨rfl, rfl⟩)
            | (refine step_append_any _ (by rfl) _ _ _ (by rfl) w.heap.size 5 i0 (.int .u8 0) 1 1 Try.underlying33 hi.out hz0.out hz1.out hz2.out rfl (by omega) A0 k c0 _ (by rfl) ((Ho.out.alloc _).drew) (wr.heap.size + 1) _ 1 1 _ (by rfl) (reads_one wr _ _) (one_one rfl) hb1 hb2 (hb3 _) ?_
               intro A1 c1 w1 ho1 hg1 _hs1
               have hbw : Below w.heap.size w w1 := below_app ((HB.out.alloc hb4 _).drew) hg1 ((Ho.out.alloc _).drew) (hb3 _)
               have hk1 : w1.cell? (ad.add k) = some (.int .u8 (x.toNat : Int)) := ((H1.out.below hbw).cell_at hx)
               have hk2 : w1.cell? (ad'.add k) = some (.int .u8 (y.toNat : Int)) := ((H2.out.below hbw).cell_at hy)
               replace ho1 := Lib.hid ho1; replace hbw := Lib.hid hbw; clear hg1))
        go_wp2_with fail
        go_roundw
        case rel =>
          refine ⟨k + 1, c1, A1, rfl, by go_num, by omega, hbw, ?_⟩
          have h := ho1.out
          rw [Hv.out, List.map_append]
          simpa [Hid, B8] using h
        case measure => simp [intOf]; omega
      · obtain rfl : k = n := by omega
        go_wp2_with fail
        go_ret2
        have hlen : (addL xs f ys).length = k := by rw [addL_length, L1.out]
        have ho := Ho.out
        rw [List.take_of_length_le (by rw [L1.out]; exact Nat.le_refl _)] at ho
        refine ⟨A0, c0, ?_, ?_⟩
        · rw [Hr.out.1, Hr.out.2, hlen]; rfl
        · rw [Hr.out.1, hlen]; exact ⟨ho, HB.out⟩
  · have he : ((n : Int) != (n' : Int)) = true := by rw [bne_iff_ne]; omega
    have Hr : Hid (addR xs f ys = [] ∧ eLen xs ys = 13) := ⟨if_neg (by omega), if_neg (by omega)⟩
    clear hnn h1 h2 l1 l2
    go_enter Try.func20, Try.ntmps20
    go_wp2_with fail
    go_ret2
    exact ⟨none, 0, by rw [Hr.out.1, Hr.out.2]; rfl, by rw [Hr.out.1]; exact Fresh.nil w _⟩
end Go.Proofs.Ytmnegkpofgjpmaa
