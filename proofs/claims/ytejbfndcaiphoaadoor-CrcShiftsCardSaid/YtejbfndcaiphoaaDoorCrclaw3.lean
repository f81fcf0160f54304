/-
  The walk of the law CrcCuts of layer 1.
-/
import Derived.Test.YtejbfndcaiphoaaDoorCrclaw
import Derived.Test.YtejbfndcaiphoaaDoorCrcs
namespace Go.Proofs.YtejbfndcaiphoaaDoor
open Go.RowKit

set_option maxRecDepth 100000 in
set_option maxHeartbeats 2000000 in
theorem crcCuts_walk (A : Option Addr) (n c : Nat) (xs : List UInt8) (w : World) (l1 : n ≤ c) (m1 : c ≤ maxLen) (h1 : Reads w w.heap.size 1 A n (xs.map B8)) (ht : Tab w) :
    Calls Tryd.prog 6 #[.slice A n c] w fun e w' => e = .returned (.bool true) ∧ Below w.heap.size w w' := by
  have T := Lib.hid ht
  have H := Lib.hid h1
  have L := Lib.hid h1.len
  have LM := Lib.hid (show n ≤ c ∧ c ≤ maxLen from ⟨l1, m1⟩)
  clear ht h1 l1 m1
  go_enter Tryd.func6, Tryd.ntmps6
  go_wp2_with fail
  refine (alive_any _ T.out).mono ?_; rintro e w1 ⟨rfl, hB1⟩
  have B1 := Lib.hid hB1
  clear hB1
  by_cases hn : (5000 : Int) < n
  · go_wp2_with fail
    go_ret
    exact ⟨rfl, B1.out⟩
  have hn2 : n ≤ 5000 := by omega
  clear hn
  go_wp2_with fail
  refine (cut_any A n c xs w1 (T.out.below B1.out T.out.pos) ((H.out.below B1.out).more B1.out.size) LM.out.1 LM.out.2 (by omega)).mono ?_; rintro e w2 ⟨A2, c2, rfl, hF2⟩
  have B2 := Lib.hid (below_then B1.out hF2.below)
  have R2 := Lib.hid hF2.reads
  clear hF2
  go_wp2_with fail
  refine (refCut_any A n c xs w2 ((H.out.below B2.out).more B2.out.size) LM.out.1 (by omega)).mono ?_; rintro e w3 ⟨A3, c3, rfl, hF3⟩
  have B3 := Lib.hid (below_then B2.out hF3.below)
  have R23 := Lib.hid ((R2.out.below hF3.below).more hF3.below.size)
  have R3 := Lib.hid hF3.reads
  clear hF3
  go_wp2_with fail
  refine (put_any A n c w.heap.size xs w3 (T.out.below B3.out T.out.pos) (H.out.below B3.out) B3.out.size LM.out.1 LM.out.2 (by omega)).mono ?_; rintro e w4 ⟨A4, c4, rfl, hF4⟩
  have B4 := Lib.hid (below_then B3.out hF4.below)
  have R24 := Lib.hid ((R23.out.below hF4.below).more hF4.below.size)
  have R34 := Lib.hid ((R3.out.below hF4.below).more hF4.below.size)
  have R4 := Lib.hid hF4.reads
  have hc4 := Lib.hid (own_cap hF4.1)
  clear hF4
  go_wp2_with fail
  refine (cut_any A4 (n + 4) c4 (Crcp.put xs) w4 (T.out.below B4.out T.out.pos) R4.out hc4.out.1 hc4.out.2 (by omega)).mono ?_
  rw [(Crcp.cut_put xs).1, (Crcp.cut_put xs).2, SlErrN_eq L.out]
  rintro e w5 ⟨A5, c5, rfl, hF5⟩
  have B5 := Lib.hid (below_then B4.out hF5.below)
  have R25 := Lib.hid (R24.out.below hF5.below)
  have R35 := Lib.hid (R34.out.below hF5.below)
  have R45 := Lib.hid ((R4.out.below hF5.below).more hF5.below.size)
  have R5 := Lib.hid hF5.reads
  clear hF5
  go_wp2_with fail
  have D1 := same_any A2 A3 _ _ c2 c3 _ _ _ _ w5 R25.out R35.out
  rw [decide_eq_true rfl] at D1
  refine D1.mono ?_; rintro e w' ⟨rfl, rfl⟩
  clear D1
  go_wp2_with fail
  refine (refPut_any A n c w.heap.size xs w5 (H.out.below B5.out) B5.out.size (by omega)).mono ?_; rintro e w6 ⟨A6, c6, rfl, hF6⟩
  have B6 := Lib.hid (below_then B5.out hF6.below)
  have R46 := Lib.hid (R45.out.below hF6.below)
  have R56 := Lib.hid (R5.out.below hF6.below)
  have R6 := Lib.hid hF6.reads
  clear hF6
  go_wp2_with fail
  have D2 := same_any A4 A6 _ _ c4 c6 _ _ _ _ w6 R46.out R6.out
  rw [decide_eq_true rfl] at D2
  refine D2.mono ?_; rintro e w' ⟨rfl, rfl⟩
  clear D2
  go_wp2_with fail
  have D3 := same_any A5 A _ _ c5 c _ _ _ _ w6 R56.out (H.out.below B6.out)
  rw [decide_eq_true rfl] at D3
  refine D3.mono ?_; rintro e w' ⟨rfl, rfl⟩
  clear D3
  go_wp2_with fail
  go_ret
  exact ⟨rfl, B6.out⟩
end Go.Proofs.YtejbfndcaiphoaaDoor
