/-
  The walks of the laws CrcJoins and CrcShifts of layer 1.
-/
import Derived.Test.YtejbfndcaiphoaaDoorCrcj5
namespace Go.Proofs.YtejbfndcaiphoaaDoor
open Go.RowKit

set_option maxRecDepth 100000 in
set_option maxHeartbeats 1000000 in
theorem crcJoins_walk (A : Option Addr) (n c : Nat) (xs : List UInt8) (B : Option Addr) (n' c' : Nat) (ys : List UInt8) (w : World)
    (l1 : n ≤ c) (m1 : c ≤ maxLen) (h1 : Reads w w.heap.size 1 A n (xs.map B8)) (l2 : n' ≤ c') (m2 : c' ≤ maxLen) (h2 : Reads w w.heap.size 1 B n' (ys.map B8)) (ht : Tab w) :
    Calls Tryd.prog 8 #[.slice A n c, .slice B n' c'] w fun e w' => e = .returned (.bool true) ∧ Below w.heap.size w w' := by
  have T := Lib.hid ht
  have H1 := Lib.hid h1
  have H2 := Lib.hid h2
  have L1 := Lib.hid h1.len
  have L2 := Lib.hid h2.len
  clear ht h1 h2
  obtain ⟨i0, hi, hz0, hz1, hz2⟩ := info_parts info_u8
  replace hi := Lib.hid hi; replace hz0 := Lib.hid hz0; replace hz1 := Lib.hid hz1; replace hz2 := Lib.hid hz2
  have LM := Lib.hid (show (n ≤ c ∧ c ≤ maxLen) ∧ (n' ≤ c' ∧ c' ≤ maxLen) from ⟨⟨l1, m1⟩, ⟨l2, m2⟩⟩)
  clear l1 m1 l2 m2
  go_enter Tryd.func8, Tryd.ntmps8
  go_wp2_with fail
  refine (alive_any _ T.out).mono ?_; rintro e w1 ⟨rfl, hB1⟩
  have HB1 := Lib.hid hB1
  clear hB1
  by_cases hn : (3000 : Int) < n
  · go_wp2_with fail
    go_ret
    exact ⟨rfl, HB1.out⟩
  by_cases hn2 : (3000 : Int) < n'
  · go_wp2_with fail
    go_ret
    exact ⟨rfl, HB1.out⟩
  have hb1 : 0 + n ≤ maxLen := by unfold maxLen; omega
  have hb2 : (0 + n) * 1 ≤ 140737488355328 := by omega
  have hb3 : n + n' ≤ maxLen := by unfold maxLen; omega
  have hb4 : (n + n') * 1 ≤ 140737488355328 := by omega
  go_wp2_with (first
    | (at_builtin; refine wpList_append_any _ rfl (.tmp 16) (.tmp 17) 22 rfl w.heap.size 5 i0 (.int .u8 0) 1 1 Tryd.underlying22 hi.out hz0.out hz1.out hz2.out rfl (by omega) none 0 0 [] rfl (World.ownsRow_nil _ _ _ 1) w.heap.size A n c _ rfl (H1.out.below HB1.out) (b8_one _) hb1 hb2 HB1.out.size ?_; intro A1 c1 w2 ho1 hg1 _hs1; have HB2 := Lib.hid (below_app HB1.out hg1 (World.ownsRow_nil w1 w.heap.size 5 1) HB1.out.size); rw [Nat.zero_add] at ho1; replace ho1 := Lib.hid ho1; clear hg1 _hs1)
    | (at_builtin; refine wpList_append_any _ rfl (.tmp 18) (.tmp 19) 22 rfl w.heap.size 5 i0 (.int .u8 0) 1 1 Tryd.underlying22 hi.out hz0.out hz1.out hz2.out rfl (by omega) A1 n c1 _ rfl ho1.out w.heap.size B n' c' _ rfl (H2.out.below HB2.out) (b8_one _) hb3 hb4 HB2.out.size ?_; intro A2 c2 w3 ho2 hg2 _hs2; have HB3 := Lib.hid (below_app HB2.out hg2 ho1.out HB2.out.size); replace ho2 := Lib.hid ho2; clear hg2 _hs2))
  have Rx : Hid (Reads w3 w3.heap.size 1 A2 (n + n') ((xs ++ ys).map B8)) := by
    have h := Reads.of_own ho2.out
    simpa [Hid] using h
  have hcap := Lib.hid (own_cap ho2.out)
  have Hj : Hid (Crcp.sum (xs ++ ys) = Crcp.join (Crcp.sum xs) (Crcp.sum ys) n') := by
    rw [Crcp.sum_append]
    have e := L2.out
    rw [e]; rfl
  have sx := Crcp.sum_lt xs
  have sy := Crcp.sum_lt ys
  go_wp2_with fail
  refine (sum_any A n c w.heap.size xs w3 (T.out.below HB3.out T.out.pos) (H1.out.below HB3.out) HB3.out.size LM.out.1.1 LM.out.1.2).mono ?_; rintro e w4 ⟨rfl, hB4⟩
  have HB4 := Lib.hid (below_then HB3.out hB4)
  have Rx2 := Lib.hid (Rx.out.below hB4)
  have s4 : w3.heap.size ≤ w4.heap.size := hB4.size
  clear hB4
  go_wp2_with fail
  refine (sum_any B n' c' w.heap.size ys w4 (T.out.below HB4.out T.out.pos) (H2.out.below HB4.out) HB4.out.size LM.out.2.1 LM.out.2.2).mono ?_; rintro e w5 ⟨rfl, hB5⟩
  have HB5 := Lib.hid (below_then HB4.out hB5)
  have Rx3 := Lib.hid (Rx2.out.below (hB5.mono s4))
  have s5 : w4.heap.size ≤ w5.heap.size := hB5.size
  clear hB5
  have hn'9 : n' < 9223372036854775808 := by omega
  go_wp2_with fail
  refine (join_any _ _ n' w5 sx sy hn'9).mono ?_; rintro e w6 ⟨rfl, hB6⟩
  have HB6 := Lib.hid (below_then HB5.out hB6)
  have Rx4 := Lib.hid (Rx3.out.below (hB6.mono (Nat.le_trans s4 s5)))
  clear hB6
  go_wp2_with fail
  refine (refSum_any A2 (n + n') c2 _ (xs ++ ys) w6 Rx4.out (Nat.le_trans hcap.out.1 hcap.out.2)).mono ?_; rintro e w' ⟨rfl, rfl⟩
  go_wp2_with fail
  go_ret
  exact ⟨ret_bool (by rw [Hj.out]; simp), HB6.out⟩

set_option maxRecDepth 100000 in
set_option maxHeartbeats 1000000 in
theorem crcShifts_walk (a b n : Nat) (m l : Int) (w : World) (ha : a < 4294967296) (hb : b < 4294967296) (hn : n < 65536) (ht : Tab w) :
    Calls Tryd.prog 9 #[.int .u32 a, .int .u32 b, .int .u16 n, .int .i64 m, .int .i64 l] w fun e w' => e = .returned (.bool true) ∧ Below w.heap.size w w' := by
  have T := Lib.hid ht
  clear ht
  go_enter Tryd.func9, Tryd.ntmps9
  go_wp2_with fail
  refine (alive_any _ T.out).mono ?_; rintro e w1 ⟨rfl, hB1⟩
  have HB1 := Lib.hid hB1
  clear hB1
  go_wp2_with fail
  obtain ⟨k, hk, hk2⟩ : ∃ k : Nat, (n : Int) % 2000 = (k : Int) ∧ k < 2000 := ⟨n % 2000, by omega, by omega⟩
  rw [hk]
  have hkn : (-1 - (k : Int)) < 0 := by omega
  have hw1 : wrap64 (-1 - (k : Int)) = -1 - (k : Int) := IntWalk.wrap64_in _ ⟨by omega, by omega⟩
  refine (join_any a b k w1 ha hb (by omega)).mono ?_; rintro e w2 ⟨rfl, hB2⟩
  have HB2 := Lib.hid (below_then HB1.out hB2)
  clear hB2
  go_wp2_with fail
  refine (refJoin_any a b k _ ha hb (by omega)).mono ?_; rintro e w' ⟨rfl, rfl⟩
  go_wp2_with fail
  refine (join_neg a b _ _ hkn).mono ?_; rintro e w3 ⟨rfl, hB3⟩
  have HB3 := Lib.hid (below_then HB2.out hB3)
  clear hB3 hk hk2 hkn hw1
  by_cases hm0 : m < 0
  · go_wp2_with fail
    go_ret
    exact ⟨rfl, HB3.out⟩
  by_cases hl0 : l < 0
  · go_wp2_with fail
    go_ret
    exact ⟨rfl, HB3.out⟩
  by_cases hm1 : (1152921504606846976 : Int) < m
  · go_wp2_with fail
    go_ret
    exact ⟨rfl, HB3.out⟩
  by_cases hl1 : (1152921504606846976 : Int) < l
  · go_wp2_with fail
    go_ret
    exact ⟨rfl, HB3.out⟩
  obtain ⟨m, rfl⟩ : ∃ k : Nat, m = (k : Int) := ⟨m.toNat, by omega⟩
  obtain ⟨l, rfl⟩ : ∃ k : Nat, l = (k : Int) := ⟨l.toNat, by omega⟩
  have hw2 : wrap64 ((m : Int) + (l : Int)) = ((m + l : Nat) : Int) := by
    rw [← Int.natCast_add]; exact IntWalk.wrap64_in _ ⟨by omega, by omega⟩
  have J1 := fun W => Lib.hid (join_any a 0 m W ha (by omega) (by omega))
  have J2 := fun W => Lib.hid (join_any (Crcp.join a 0 m) b l W (Crcp.xor_lt _ _ (Crcp.bits_lt _ _ ha) (by omega)) hb (by omega))
  have J3 := fun W => Lib.hid (join_any a b (m + l) W ha hb (by omega))
  have Hj := Lib.hid (Crcp.join_join a b m l)
  go_wp2_with fail
  refine (J1 _).out.mono ?_; rintro e w4 ⟨rfl, hB4⟩
  have HB4 := Lib.hid (below_then HB3.out hB4)
  clear hB4
  go_wp2_with fail
  refine (J2 _).out.mono ?_; rintro e w5 ⟨rfl, hB5⟩
  have HB5 := Lib.hid (below_then HB4.out hB5)
  clear hB5
  go_wp2_with fail
  refine (J3 _).out.mono ?_; rintro e w6 ⟨rfl, hB6⟩
  have HB6 := Lib.hid (below_then HB5.out hB6)
  clear hB6
  go_wp2_with fail
  go_ret
  exact ⟨ret_bool (by rw [Hj.out]; simp), HB6.out⟩
end Go.Proofs.YtejbfndcaiphoaaDoor
