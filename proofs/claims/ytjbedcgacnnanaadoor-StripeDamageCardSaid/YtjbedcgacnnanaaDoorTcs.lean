/-
  crc.tail, Put, Cut and the reference's Put, Cut, walked.
-/
import Derived.Test.YtjbedcgacnnanaaDoorTcw
import Derived.Test.YtjbedcgacnnanaaDoorSame
import Derived.Deep.RegionHeld3
import Derived.Outline
namespace Go.Proofs.YtjbedcgacnnanaaDoor
open Go.RowKit

theorem new_own (w : World) (base : Nat) (e : TypeId) (cs : List Value) (hb : base ≤ w.heap.size) (hm : cs.length ≤ maxLen) : (w.alloc (.cells cs.toArray e)).ownsRow base e 1 (.slice (some ⟨w.heap.size, 0, none⟩) cs.length cs.length) cs.length cs := by
  have h := World.ownsRow_lit (base := base) (e := e) (size := 1) w cs.toArray cs.length hb hm (by simp)
  simpa using h

set_option maxRecDepth 100000 in
theorem tail_any (s : Nat) (w : World) (hs : s < 4294967296) : Calls Tryd.prog 41 #[.int .u32 s] w (SlRet 5 w 4 ((Crcp.tail s).map B8)) := by
  have e0 : Hid ((Crcp.tail s).map B8 = [.int .u8 ((s : Int) % 256), .int .u8 ((s : Int) / 256 % 256), .int .u8 ((s : Int) / 65536 % 256), .int .u8 ((s : Int) / 16777216)]) := by
    have e3 : s / 16777216 % 256 = s / 16777216 := Nat.mod_eq_of_lt (by omega)
    simp only [Crcp.tail, List.map_cons, List.map_nil, B8, UInt8.toNat_ofNat', Nat.reducePow, e3]
    rfl
  go_enter Tryd.func41, Tryd.ntmps41
  go_wp2_with fail
  go_ret
  refine ⟨some ⟨w.heap.size, 0, none⟩, 4, ?_, ?_⟩
  · rfl
  · rw [e0.out]
    exact ⟨new_own w w.heap.size _ [.int .u8 ((s : Int) % 256), .int .u8 ((s : Int) / 256 % 256), .int .u8 ((s : Int) / 65536 % 256), .int .u8 ((s : Int) / 16777216)] (Nat.le_refl _) (by simp [maxLen]), below_alloc (Below.refl _ _) _⟩

set_option maxRecDepth 100000 in
set_option maxHeartbeats 1000000 in
theorem put_any (A : Option Addr) (n c B : Nat) (xs : List UInt8) (w : World) (ht : Tab w) (h : Reads w B 1 A n (xs.map B8)) (hB : B ≤ w.heap.size) (hc : n ≤ c) (hm : c ≤ maxLen) (hn : n ≤ 1000000000000) :
    Calls Tryd.prog 29 #[.slice A n c] w (SlRet 5 w (n + 4) ((Crcp.put xs).map B8)) := by
  have T := Lib.hid ht
  have H := Lib.hid h
  have hcl := Lib.hid (show n ≤ c ∧ c ≤ maxLen from ⟨hc, hm⟩)
  obtain ⟨i0, hi, hz0, hz1, hz2⟩ := info_parts info_b
  replace hi := Lib.hid hi; replace hz0 := Lib.hid hz0; replace hz1 := Lib.hid hz1; replace hz2 := Lib.hid hz2
  clear ht h hc hm
  go_enter Tryd.func29, Tryd.ntmps29
  go_wp2_with fail
  refine (clone_any A n c B xs w H.out hB (by omega)).mono ?_; rintro e w1 ⟨A1, c1, rfl, hF1⟩
  have F1 := Lib.hid hF1
  have Z1 : w.heap.size ≤ w1.heap.size := hF1.below.size
  clear hF1
  go_wp2_with fail
  refine (sum_any A n c w.heap.size xs w1 (T.out.below F1.out.below T.out.pos) ((H.out.more hB).below F1.out.below) Z1 hcl.out.1 hcl.out.2).mono ?_; rintro e w2 ⟨rfl, hB2⟩
  have B2 := Lib.hid (below_then F1.out.below hB2)
  have O2 := Lib.hid (own_below F1.out.1 hB2)
  clear hB2
  go_wp2_with fail
  refine (tail_any _ _ (Crcp.sum_lt xs)).mono ?_; rintro e w3 ⟨A3, c3, rfl, hF3⟩
  have B3 := Lib.hid (below_then B2.out hF3.below)
  have O3 := Lib.hid (own_below O2.out hF3.below)
  have R3 := Lib.hid hF3.reads
  clear hF3
  go_wp2_with (at_builtin; refine wpList_append_any _ rfl (.tmp 4) (.tmp 7) 27 rfl w.heap.size 5 i0 (.int .u8 0) 1 1 Tryd.underlying27 hi.out hz0.out hz1.out hz2.out rfl (by omega) A1 n c1 _ rfl O3.out w3.heap.size A3 4 c3 _ rfl R3.out (b8_one _) ?_ ?_ ?_ ?_; rotate_left 3; intro A4 c4 w4 ho4 hg4 _hs4; have HB4 := Lib.hid (below_app B3.out hg4 O3.out B3.out.size); replace ho4 := Lib.hid ho4; clear hg4 _hs4)
  rotate_left 1
  · unfold maxLen; omega
  · omega
  · exact B3.out.size
  go_ret
  refine ⟨A4, c4, rfl, ?_, HB4.out⟩
  have h := ho4.out
  rw [← List.map_append] at h
  exact h

set_option maxRecDepth 100000 in
set_option maxHeartbeats 2000000 in
theorem cut_any (A : Option Addr) (n c : Nat) (xs : List UInt8) (w : World) (ht : Tab w) (h : Reads w w.heap.size 1 A n (xs.map B8)) (hc : n ≤ c) (hm : c ≤ maxLen) (hn : n ≤ 1000000000000) :
    Calls Tryd.prog 63 #[.slice A n c] w (SlErr 5 w (Crcp.cutV xs) (Crcp.cutE xs)) := by
  have hl := h.len
  by_cases h4 : n < 4
  · have Hr : Hid (Crcp.cutV xs = [] ∧ Crcp.cutE xs = 1) := ⟨if_pos (by omega), if_pos (by omega)⟩
    have hlt : (n : Int) - 4 < 0 := by omega
    clear h hl ht
    go_enter Tryd.func63, Tryd.ntmps63
    go_wp2_with fail
    go_ret2
    exact ⟨none, 0, by rw [Hr.out.1, Hr.out.2]; rfl, by rw [Hr.out.1]; exact Fresh.nil w _⟩
  obtain ⟨k, rfl⟩ : ∃ k, n = k + 4 := ⟨n - 4, by omega⟩
  have T := Lib.hid ht
  have H := Lib.hid h
  have Hr : Hid (Crcp.cutV xs = (if Crcp.cutOk xs then xs.take k else []) ∧ Crcp.cutE xs = (if Crcp.cutOk xs then 0 else 5) ∧ Crcp.cutOk xs = decide (xs.drop k = Crcp.tail (Crcp.sum (xs.take k)))) := by
    refine ⟨?_, if_neg (by omega), ?_⟩
    · rw [Crcp.cutV, if_neg (by omega), show xs.length - 4 = k by omega]
    · rw [Crcp.cutOk, show xs.length - 4 = k by omega]
  have hk0 : (k : Int) + 4 ≤ (c : Int) := by omega
  have hk1 : (k : Int) ≤ (c : Int) := by omega
  obtain ⟨i0, hi, hz0, hz1, hz2⟩ := info_parts info_b
  have hsl := run_cut_lo (P := Tryd.prog) 27 5 i0 1 Tryd.underlying27 hi hz1 A (k + 4) c k .i64 (by omega)
  have hkk : k ≤ k + 4 := by omega
  have C1 : Hid (∀ W, Below w.heap.size w W → Calls Tryd.prog 42 #[.slice A k c] W fun e w' => e = .returned (.int .u32 (Crcp.sum (xs.take k))) ∧ Below W.heap.size W w') := fun W hW =>
    sum_any A k c w.heap.size (xs.take k) W (T.out.below hW T.out.pos) ((H.out.below hW).takeN hkk) hW.size (by omega) hm
  have Hlen : Hid ((xs.take k).length = k) := by rw [Hid, List.length_take]; omega
  have RK := fun (W : World) (hW : Below w.heap.size w W) => (H.out.below hW).takeN hkk
  have RC := fun (W : World) (hW : Below w.heap.size w W) => (H.out.below hW).cutN hkk hc
  rw [show k + 4 - k = 4 by omega] at RC
  replace RK := Lib.hid RK
  replace RC := Lib.hid RC
  clear hi hz0 hz1 hz2 ht h hl h4 hc hm
  go_enter Tryd.func63, Tryd.ntmps63
  go_wp2_with fail
  go_region_held3 (fun w' => Below w.heap.size w w')
    (first | assumption | exact Below.refl _ _ | (repeat (first | assumption | exact Below.refl _ _ | (with_reducible refine below_alloc ?_ _) | (with_reducible refine Below.drew ?_))))
    (first
      | (go_at_call 42; ((with_reducible refine (C1.out _ (by assumption)).mono ?_); rintro e w2 ⟨rfl, hB2⟩; have hS2 := below_then (by assumption) hB2))
      | (go_at_call 41; ((with_reducible refine (tail_any _ _ (Crcp.sum_lt (xs.take k))).mono ?_); rintro e w3 ⟨A3, c3, rfl, hF3⟩; have hS3 := below_then (by assumption) hF3.below; have F3 := Lib.hid hF3; clear hF3))
      | (go_at_call 48; ((with_reducible refine (equal_any _ _ _ _ _ _ _ _ _ _ _ (RC.out _ (by assumption)) F3.out.reads (by omega) (by omega)).mono ?_); rintro e w4 ⟨rfl, hD4⟩; have hS4 : Below w.heap.size w w4 := Below.trans (by assumption) (hD4.below _); clear hD4)))
  rw [← Hr.out.2.2]
  cases hok : Crcp.cutOk xs
  · have Hv : Hid (Crcp.cutV xs = [] ∧ Crcp.cutE xs = 5) := by
      have h := Hr.out
      rw [hok] at h
      exact ⟨h.1, h.2.1⟩
    clear hok
    go_wp2_with fail
    go_ret2
    exact ⟨none, 0, by rw [Hv.out.1, Hv.out.2]; rfl, by rw [Hv.out.1]; exact ⟨World.ownsRow_nil _ _ _ 1, hS4⟩⟩
  · have Hv : Hid (Crcp.cutV xs = xs.take k ∧ Crcp.cutE xs = 0) := by
      have h := Hr.out
      rw [hok] at h
      exact ⟨h.1, h.2.1⟩
    clear hok
    have HS4 := Lib.hid hS4
    have C4 := Lib.hid (clone_any A k c w.heap.size (xs.take k) w4 (RK.out _ hS4) hS4.size (by omega))
    go_wp2_with fail
    refine C4.out.mono ?_; rintro e w5 ⟨A5, c5, rfl, hF5⟩
    have F5 := Lib.hid hF5
    clear hF5
    go_wp2_with fail
    go_ret2
    refine ⟨A5, c5, ?_, ?_⟩
    · rw [Hv.out.1, Hv.out.2, Hlen.out]; rfl
    · rw [Hv.out.1, Hlen.out]
      exact ⟨own_base F5.out.1 HS4.out.size, below_then HS4.out F5.out.below⟩

set_option maxRecDepth 100000 in
set_option maxHeartbeats 2000000 in
theorem refPut_any (A : Option Addr) (n c B : Nat) (xs : List UInt8) (w : World) (h : Reads w B 1 A n (xs.map B8)) (hB : B ≤ w.heap.size) (hn : n ≤ 1000000000000) :
    Calls Tryd.prog 20 #[.slice A n c] w (SlRet 5 w (n + 4) ((Crcp.put xs).map B8)) := by
  have H := Lib.hid h
  obtain ⟨i0, hi, hz0, hz1, hz2⟩ := info_parts info_b
  replace hi := Lib.hid hi; replace hz0 := Lib.hid hz0; replace hz1 := Lib.hid hz1; replace hz2 := Lib.hid hz2
  have C1 := Lib.hid (refSum_any A n c B xs w h (by unfold maxLen; omega))
  have hs := Crcp.sum_lt xs
  have Hput : Hid (Crcp.put xs = xs ++ Crcp.tail (Crcp.sum xs)) := rfl
  generalize Crcp.sum xs = s at *
  clear h
  go_enter Tryd.func20, Tryd.ntmps20
  go_wp2_with fail; refine (C1.out).mono ?_; rintro e w' ⟨rfl, rfl⟩
  go_wp2_with (at_builtin; refine wpList_append_any _ rfl (.tmp 8) (.tmp 9) 27 rfl w.heap.size 5 i0 (.int .u8 0) 1 1 Tryd.underlying27 hi.out hz0.out hz1.out hz2.out rfl (by omega) (some ⟨w.heap.size, 0, none⟩) 0 0 [] rfl (own_empty w _ _ (Nat.le_refl _)) B A n c _ rfl (H.out.alloc hB _) (b8_one _) ?_ ?_ ?_ ?_; rotate_left 3; intro A1 c1 w2 ho1 hg1 _hs1; have HB2 := Lib.hid (below_app (below_alloc (Below.refl _ _) _) hg1 (own_empty w _ _ (Nat.le_refl _)) (below_alloc (Below.refl _ w) _).size); replace ho1 := Lib.hid ho1; clear hg1 _hs1)
  rotate_left 1
  · unfold maxLen; omega
  · omega
  · exact (below_alloc (Below.refl _ w) _).size
  have O1 : Hid (w2.ownsRow w.heap.size 5 1 (.slice A1 n c1) n ((xs ++ (Crcp.tail s).take 0).map B8)) := by
    have h := ho1.out
    rw [List.take_zero, List.append_nil]
    simpa [Hid] using h
  clear ho1
  go_wp2_with fail
  go_loopw [3, 4, 5] (fun t v i wr => ∃ (k c0 : Nat) (A0 : Option Addr), t = .int .u32 ((s / 256 ^ k : Nat) : Int) ∧ v = .slice A0 (n + k) c0 ∧ i = .int .i64 k ∧ k ≤ 4 ∧ Hid (Below w.heap.size w wr) ∧
      Hid (wr.ownsRow w.heap.size 5 1 (.slice A0 (n + k) c0) (n + k) ((xs ++ (Crcp.tail s).take k).map B8))) (fun _ _ i _ => 4 - (intOf i).toNat)
  case atStart => exact ⟨0, c1, A1, by rw [Nat.pow_zero, Nat.div_one], rfl, rfl, by omega, HB2, O1⟩
  case round =>
    obtain ⟨k, c0, A0, rfl, rfl, rfl, hk, HB, Ho⟩ := hrel
    by_cases hlt : k < 4
    · have Ht : Hid ((Crcp.tail s).take (k + 1) = (Crcp.tail s).take k ++ [UInt8.ofNat (s / 256 ^ k)]) := Crcp.tail_snoc s k hlt
      have Hd : Hid (s / 256 ^ (k + 1) = s / 256 ^ k / 256) := by rw [Nat.pow_succ, Nat.div_div_eq_div_mul]; rfl
      have hsk : s / 256 ^ k < 4294967296 := Nat.lt_of_le_of_lt (Nat.div_le_self _ _) hs
      have hb : Hid (B8 (UInt8.ofNat (s / 256 ^ k)) = .int .u8 (((s / 256 ^ k : Nat) : Int) % 256)) := by
        simp only [B8, UInt8.toNat_ofNat']
        rfl
      generalize s / 256 ^ k = u at *
      go_wp2_with (at_builtin; refine wpList_append_any _ rfl (.tmp 15) (.tmp 19) 27 rfl w.heap.size 5 i0 (.int .u8 0) 1 1 Tryd.underlying27 hi.out hz0.out hz1.out hz2.out rfl (by omega) A0 (n + k) c0 _ rfl (Ho.out.alloc _) _ _ 1 1 _ rfl (reads_one _ _ _) (one_one rfl) ?_ ?_ ?_ ?_; rotate_left 3; intro A1 c1 w2 ho1 hg1 _hs1; have HB2 := Lib.hid (below_app (below_alloc HB.out _) hg1 (Ho.out.alloc _) (below_alloc HB.out _).size); replace ho1 := Lib.hid ho1; clear hg1 _hs1)
      rotate_left 1
      · unfold maxLen; omega
      · omega
      · exact (below_alloc HB.out _).size
      go_roundw
      case rel =>
        refine ⟨k + 1, c1, A1, by rw [Hd.out]; rfl, rfl, by go_num, by omega, HB2, ?_⟩
        have h := ho1.out
        rw [Ht.out, ← List.append_assoc, List.map_append, List.map_cons, List.map_nil, hb.out]
        exact h
      case measure => simp [intOf]; omega
    · obtain rfl : k = 4 := by omega
      go_wp2_with fail
      go_ret
      refine ⟨A0, c0, rfl, ?_, HB.out⟩
      rw [Hput.out]
      exact Ho.out

set_option maxRecDepth 100000 in
set_option maxHeartbeats 2000000 in
theorem refCut_any (A : Option Addr) (n c : Nat) (xs : List UInt8) (w : World) (h : Reads w w.heap.size 1 A n (xs.map B8)) (hc : n ≤ c) (hn : n ≤ 1000000000000) :
    Calls Tryd.prog 19 #[.slice A n c] w (SlErr 5 w (Crcp.cutV xs) (Crcp.cutE xs)) := by
  have hl := h.len
  by_cases h4 : n < 4
  · have Hr : Hid (Crcp.cutV xs = [] ∧ Crcp.cutE xs = 1) := ⟨if_pos (by omega), if_pos (by omega)⟩
    have hlt : (n : Int) < 4 := by omega
    clear h hl
    go_enter Tryd.func19, Tryd.ntmps19
    go_wp2_with fail
    go_ret2
    exact ⟨none, 0, by rw [Hr.out.1, Hr.out.2]; rfl, by rw [Hr.out.1]; exact Fresh.nil w _⟩
  obtain ⟨k, rfl⟩ : ∃ k, n = k + 4 := ⟨n - 4, by omega⟩
  have H := Lib.hid h
  have Hr : Hid (Crcp.cutV xs = (if Crcp.cutOk xs then xs.take k else []) ∧ Crcp.cutE xs = (if Crcp.cutOk xs then 0 else 5) ∧ Crcp.cutOk xs = decide (Crcp.put (xs.take k) = xs)) := by
    refine ⟨?_, if_neg (by omega), ?_⟩
    · rw [Crcp.cutV, if_neg (by omega), show xs.length - 4 = k by omega]
    · rw [Crcp.cutOk_iff, show xs.length - 4 = k by omega]
  have hk1 : (k : Int) ≤ (c : Int) := by omega
  have hkk : k ≤ k + 4 := by omega
  have Hlen : Hid ((xs.take k).length = k) := by rw [Hid, List.length_take]; omega
  have RK := fun (W : World) (hW : Below w.heap.size w W) => (H.out.below hW).takeN hkk
  replace RK := Lib.hid RK
  obtain ⟨i0, hi, hz0, hz1, hz2⟩ := info_parts info_b
  replace hi := Lib.hid hi; replace hz0 := Lib.hid hz0; replace hz1 := Lib.hid hz1; replace hz2 := Lib.hid hz2
  clear h hl h4 hc
  go_enter Tryd.func19, Tryd.ntmps19
  go_wp2_with fail
  refine (refPut_any A k c w.heap.size (xs.take k) w (RK.out _ (Below.refl _ _)) (Nat.le_refl _) (by omega)).mono ?_; rintro e w1 ⟨A1, c1, rfl, hF1⟩
  have F1 := Lib.hid hF1
  clear hF1
  go_wp2_with fail
  refine (same_any A1 A (k + 4) (k + 4) c1 c _ _ _ _ w1 F1.out.reads (H.out.below F1.out.below)).mono ?_; rintro e w' ⟨rfl, rfl⟩
  rw [← Hr.out.2.2]
  cases hok : Crcp.cutOk xs
  · have Hv : Hid (Crcp.cutV xs = [] ∧ Crcp.cutE xs = 5) := by
      have h := Hr.out
      rw [hok] at h
      exact ⟨h.1, h.2.1⟩
    clear hok
    go_wp2_with fail
    go_ret2
    exact ⟨none, 0, by rw [Hv.out.1, Hv.out.2]; rfl, by rw [Hv.out.1]; exact ⟨World.ownsRow_nil _ _ _ 1, F1.out.below⟩⟩
  · have Hv : Hid (Crcp.cutV xs = xs.take k ∧ Crcp.cutE xs = 0) := by
      have h := Hr.out
      rw [hok] at h
      exact ⟨h.1, h.2.1⟩
    clear hok
    have HB := Lib.hid F1.out.below
    have hz := HB.out.size
    go_wp2_with (at_builtin; refine wpList_append_any _ rfl (.tmp 16) (.tmp 21) 27 rfl w.heap.size 5 i0 (.int .u8 0) 1 1 Tryd.underlying27 hi.out hz0.out hz1.out hz2.out rfl (by omega) (some ⟨w1.heap.size, 0, none⟩) 0 0 [] rfl (own_empty w1 _ _ hz) w.heap.size A k c _ rfl (RK.out _ (below_alloc HB.out _)) (b8_one _) ?_ ?_ ?_ ?_; rotate_left 3; intro A2 c2 w2 ho2 hg2 _hs2; have HB2 := Lib.hid (below_app (below_alloc HB.out _) hg2 (own_empty w1 _ _ hz) (below_alloc HB.out _).size); replace ho2 := Lib.hid ho2; clear hg2 _hs2)
    rotate_left 1
    · unfold maxLen; omega
    · omega
    · exact (below_alloc HB.out _).size
    go_ret2
    refine ⟨A2, c2, ?_, ?_⟩
    · rw [Hv.out.1, Hv.out.2, Hlen.out]
      simp
    · rw [Hv.out.1, Hlen.out]
      have h := ho2.out
      exact ⟨by simpa using h, HB2.out⟩
end Go.Proofs.YtjbedcgacnnanaaDoor
