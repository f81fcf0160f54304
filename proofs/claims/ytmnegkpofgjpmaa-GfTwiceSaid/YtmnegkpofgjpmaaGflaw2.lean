/-
  The walks of the laws of layer 4 over rows and bytes: each returns true, and nothing that was there has turned.
-/
import Derived.Test.YtmnegkpofgjpmaaGfs
import Derived.Test.YtmnegkpofgjpmaaSame
namespace Go.Proofs.Ytmnegkpofgjpmaa
open Go.RowKit

set_option maxRecDepth 100000 in
theorem gfRows_walk (c i : Nat) (w : World) (hc : c < 256) (hi : i < 256) :
    Calls Try.prog 5 #[.int .u8 c, .int .u8 i] w fun e w' => e = .returned (.bool true) ∧ Below w.heap.size w w' := by
  have hz := (zero_of_info info_arr).1
  have hsz : (Try.prog.info? 26).map (·.size) = some (rowCells c).size := by rw [rowCells_size]; exact (zero_of_info info_arr).2
  replace hsz := Lib.hid hsz
  go_enter Try.func5, Try.ntmps5
  go_wp2_with fail; refine (alive_any _).mono ?_; rintro e w' ⟨rfl, rfl⟩
  go_wp2_with fail
  refine (row_any _ _ hc).mono ?_; rintro e w1 ⟨rfl, hB1⟩
  replace hB1 := Lib.hid hB1
  go_wp2_with (refine wpList_store_box rfl 26 _ _ rfl w1.heap.size (rowCells c) rfl rfl 26 zc256 (Blk.new _ _ _) hsz.out (zc256_size _) (rowCells_one _) ?_; intro w2 hb2 hf2 hB2 hs2; replace hb2 := Lib.hid hb2; replace hf2 := Lib.hid hf2; replace hB2 := Lib.hid hB2; replace hs2 := Lib.hid hs2)
  have hrow : w2.cell? ⟨w1.heap.size, i, none⟩ = some (.int .u8 ((Gfp.gm c i : Nat) : Int)) := by rw [hb2.out.cell, rowCells_at _ _ hi]
  have hB : Hid (Below w.heap.size w w2) := hB2.out _ _ (hB1.out.alloc hB1.out.size _) hB1.out.size
  clear hz
  have hii : (i : Int) < 256 := by omega
  go_quiet ((go_at_call 14; exact quiet_left (refMul_any c i _ hc hi)))
  go_wp2_with fail
  go_ret
  exact ⟨rfl, hB.out.trans ((Dr.refl _).drewN _ |>.below _)⟩

set_option maxRecDepth 100000 in
set_option maxHeartbeats 1000000 in
theorem gfAdds_walk (A : Option Addr) (n c : Nat) (xs : List UInt8) (f : Nat) (A' : Option Addr) (n' c' : Nat) (ys : List UInt8) (w : World) (_l1 : n ≤ c) (_m1 : c ≤ maxLen) (h1 : Reads w w.heap.size 1 A n (xs.map B8)) (hf : f < 256) (_l2 : n' ≤ c') (_m2 : c' ≤ maxLen) (h2 : Reads w w.heap.size 1 A' n' (ys.map B8)) :
    Calls Try.prog 9 #[.slice A n c, .int .u8 f, .slice A' n' c'] w fun e w' => e = .returned (.bool true) ∧ Below w.heap.size w w' := by
  obtain ⟨f, rfl⟩ : ∃ g : UInt8, f = g.toNat := ⟨UInt8.ofNat f, by rw [UInt8.toNat_ofNat']; omega⟩
  clear hf _l1 _m1 _l2 _m2
  by_cases hn : (500 : Int) < n
  · clear h1 h2
    go_enter Try.func9, Try.ntmps9
    go_wp2_with fail; refine (alive_any _).mono ?_; rintro e w' ⟨rfl, rfl⟩
    go_wp2_with fail
    go_ret
    exact ⟨rfl, Below.refl _ _⟩
  by_cases hn' : (500 : Int) < n'
  · clear h1 h2
    go_enter Try.func9, Try.ntmps9
    go_wp2_with fail; refine (alive_any _).mono ?_; rintro e w' ⟨rfl, rfl⟩
    go_wp2_with fail
    go_ret
    exact ⟨rfl, Below.refl _ _⟩
  have H1 := Lib.hid h1
  have H2 := Lib.hid h2
  clear h1 h2
  go_enter Try.func9, Try.ntmps9
  go_wp2_with fail; refine (alive_any _).mono ?_; rintro e w' ⟨rfl, rfl⟩
  go_wp2_with fail
  refine (add_any A A' n n' c c' xs ys f _ H1.out H2.out (by omega) (by omega)).mono ?_; rintro e w1 ⟨A1, c1, rfl, hF1⟩
  have R1 := Lib.hid (H1.out.below hF1.below)
  have R2 := Lib.hid (H2.out.below hF1.below)
  have F1 := Lib.hid hF1
  clear hF1
  go_wp2_with fail
  refine (refAdd_any A A' n n' c c' xs ys f _ (R1.out.more F1.below.size) (R2.out.more F1.below.size) (by omega) (by omega)).mono ?_; rintro e w2 ⟨A2, c2, rfl, hF2⟩
  have R3 := Lib.hid (R1.out.below (hF2.below.mono F1.below.size))
  have R4 := Lib.hid (R2.out.below (hF2.below.mono F1.below.size))
  have B2 := Lib.hid (F1.below.trans (hF2.below.mono F1.below.size))
  have X1 := Lib.hid (F1.reads.below hF2.below)
  have F2 := Lib.hid hF2
  clear hF2
  go_wp2_with fail
  refine (dot_any A A' n n' c c' xs ys _ (R3.out.more B2.out.size) (R4.out.more B2.out.size) (by omega) (by omega)).mono ?_; rintro e w' ⟨rfl, rfl⟩
  go_wp2_with fail
  refine (refDot_any A A' n n' c c' xs ys _ (R3.out.more B2.out.size) (R4.out.more B2.out.size) (by omega) (by omega)).mono ?_; rintro e w3 ⟨rfl, hD⟩
  have X3 := Lib.hid (hD.reads X1.out)
  have X4 := Lib.hid (hD.reads F2.reads)
  have B3 := Lib.hid (B2.out.trans (hD.below _))
  clear hD
  go_wp2_with fail
  have hS := same_any (A := A1) (A' := A2) (c := c1) (c' := c2) _ _ _ _ _ _ w3 X3.out X4.out
  rw [decide_eq_true rfl] at hS
  refine hS.mono ?_; rintro e w' ⟨rfl, rfl⟩
  go_wp2_with fail
  go_ret
  exact ⟨rfl, B3.out⟩

set_option maxRecDepth 100000 in
set_option maxHeartbeats 1000000 in
theorem gfTwice_walk (A : Option Addr) (n c : Nat) (xs : List UInt8) (f g : Nat) (A' : Option Addr) (n' c' : Nat) (ys : List UInt8) (w : World) (_l1 : n ≤ c) (_m1 : c ≤ maxLen) (h1 : Reads w w.heap.size 1 A n (xs.map B8)) (hf : f < 256) (hg : g < 256) (_l2 : n' ≤ c') (_m2 : c' ≤ maxLen) (h2 : Reads w w.heap.size 1 A' n' (ys.map B8)) :
    Calls Try.prog 8 #[.slice A n c, .int .u8 f, .int .u8 g, .slice A' n' c'] w fun e w' => e = .returned (.bool true) ∧ Below w.heap.size w w' := by
  obtain ⟨f, rfl⟩ : ∃ u : UInt8, f = u.toNat := ⟨UInt8.ofNat f, by rw [UInt8.toNat_ofNat']; omega⟩
  obtain ⟨g, rfl⟩ : ∃ u : UInt8, g = u.toNat := ⟨UInt8.ofNat g, by rw [UInt8.toNat_ofNat']; omega⟩
  clear hf hg _l1 _m1 _l2 _m2
  by_cases hn : (500 : Int) < n
  · clear h1 h2
    go_enter Try.func8, Try.ntmps8
    go_wp2_with fail; refine (alive_any _).mono ?_; rintro e w' ⟨rfl, rfl⟩
    go_wp2_with fail
    go_ret
    exact ⟨rfl, Below.refl _ _⟩
  by_cases hnn : n = n'
  case neg =>
    have he : ((n : Int) != (n' : Int)) = true := by rw [bne_iff_ne]; omega
    clear h1 h2 hnn
    go_enter Try.func8, Try.ntmps8
    go_wp2_with fail; refine (alive_any _).mono ?_; rintro e w' ⟨rfl, rfl⟩
    go_wp2_with fail
    go_ret
    exact ⟨rfl, Below.refl _ _⟩
  subst hnn
  have l1 := h1.len
  have l2 := h2.len
  have Q : ∀ (u v : UInt8), addR xs u ys = addL xs u ys ∧ eLen xs ys = 0 ∧ addR (addL xs u ys) v ys = addL xs (u ^^^ v) ys := fun u v =>
    ⟨if_pos (by omega), if_pos (by omega), by rw [addR, if_pos (by rw [addL_length]; omega), addL_twice]⟩
  have hlen : ∀ u, (addL xs u ys).length = n := fun u => by rw [addL_length, l1]
  have C1 := add_any A A' n n c c' xs ys f w h1 h2 (by omega) (by omega)
  rw [(Q f f).1, SlErrN_eq (hlen f)] at C1
  have hxo := xor8 f g
  rw [UInt8.toNat_xor] at hxo
  have hxs : addL xs (f ^^^ f) ys = xs := by rw [fx_self, addL_zero]
  have Q' := Lib.hid Q; clear Q
  have L' := Lib.hid hlen; clear hlen
  have H1 := Lib.hid h1
  have H2 := Lib.hid h2
  replace C1 := Lib.hid C1
  replace hxs := Lib.hid hxs
  clear h1 h2 l1 l2
  go_enter Try.func8, Try.ntmps8
  go_wp2_with fail; refine (alive_any _).mono ?_; rintro e w' ⟨rfl, rfl⟩
  go_wp2_with fail
  refine C1.out.mono ?_; rintro e w1 ⟨A1, c1, rfl, hF1⟩
  have F1 := Lib.hid hF1
  have Z1 : w.heap.size ≤ w1.heap.size := hF1.below.size
  have R1 := Lib.hid ((H1.out.below hF1.below).more Z1)
  have R2 := Lib.hid ((H2.out.below hF1.below).more Z1)
  clear hF1
  go_wp2_with fail
  have C2 := add_any A1 A' n n c1 c' _ ys f _ F1.out.reads R2.out (by omega) (by omega)
  rw [(Q'.out f f).2.2, SlErrN_eq (L'.out _)] at C2
  refine C2.mono ?_; rintro e w2 ⟨A2, c2, rfl, hF2⟩
  have F2 := Lib.hid hF2
  have Z2 : w1.heap.size ≤ w2.heap.size := hF2.below.size
  have S1 := Lib.hid ((R1.out.below hF2.below).more Z2)
  have S2 := Lib.hid ((R2.out.below hF2.below).more Z2)
  have SX := Lib.hid ((F1.out.reads.below hF2.below).more Z2)
  clear hF2 C2
  go_wp2_with fail
  have C3 := add_any A1 A' n n c1 c' _ ys g _ SX.out S2.out (by omega) (by omega)
  rw [(Q'.out f g).2.2, SlErrN_eq (L'.out _)] at C3
  refine C3.mono ?_; rintro e w3 ⟨A3, c3, rfl, hF3⟩
  have F3 := Lib.hid hF3
  have Z3 : w2.heap.size ≤ w3.heap.size := hF3.below.size
  have T1 := Lib.hid ((S1.out.below hF3.below).more Z3)
  have T2 := Lib.hid ((S2.out.below hF3.below).more Z3)
  have TY := Lib.hid ((F2.out.reads.below hF3.below).more Z3)
  clear hF3 C3
  go_wp2_with fail
  have C4 := add_any A A' n n c c' xs ys (f ^^^ g) _ T1.out T2.out (by omega) (by omega)
  rw [(Q'.out (f ^^^ g) f).1, (Q'.out f f).2.1, SlErrN_eq (L'.out _), UInt8.toNat_xor] at C4
  refine C4.mono ?_; rintro e w4 ⟨A4, c4, rfl, hF4⟩
  have U1 := Lib.hid (T1.out.below hF4.below)
  have UY := Lib.hid (TY.out.below hF4.below)
  have UZ := Lib.hid (F3.out.reads.below hF4.below)
  have UW := Lib.hid hF4.reads
  have BB := Lib.hid (((F1.out.below.trans (F2.out.below.mono Z1)).trans (F3.out.below.mono (Nat.le_trans Z1 Z2))).trans (hF4.below.mono (Nat.le_trans Z1 (Nat.le_trans Z2 Z3))))
  clear hF4 C4
  go_wp2_with fail
  have D1 := same_any (A := A2) (A' := A) (c := c2) (c' := c) _ _ _ _ _ _ w4 UY.out U1.out
  rw [decide_eq_true hxs.out] at D1
  refine D1.mono ?_; rintro e w' ⟨rfl, rfl⟩
  clear D1
  go_wp2_with fail
  have D2 := same_any (A := A3) (A' := A4) (c := c3) (c' := c4) _ _ _ _ _ _ w4 UZ.out UW.out
  rw [decide_eq_true rfl] at D2
  refine D2.mono ?_; rintro e w' ⟨rfl, rfl⟩
  clear D2
  go_wp2_with fail
  go_ret
  exact ⟨rfl, BB.out⟩
end Go.Proofs.Ytmnegkpofgjpmaa
