/-
  The walks of the laws of layer 1: each returns true, and nothing that was there has turned.
-/
import Derived.Test.YtejbfndcaiphoaaDoorCrcw
import Derived.Test.YtejbfndcaiphoaaDoorApp
import Derived.Test.YtejbfndcaiphoaaDoorClone
import Derived.Deep.QuietTactic
import Derived.BigQuiet
import Derived.Deep.RegionHeld3
import Derived.Lib.SlBytesConst
namespace Go.Proofs.YtejbfndcaiphoaaDoor
open Go.RowKit




def digits : List UInt8 := [49, 50, 51, 52, 53, 54, 55, 56, 57]
theorem digits_sum : Crcp.sum digits = 3421780262 := by decide +kernel
theorem new_reads (w : World) (t : TypeId) (fr : Nat × Nat) (bs : List UInt8) : Reads (w.alloc (.cells (bs.map B8).toArray t fr)) (w.heap.size + 1) 1 (some ⟨w.heap.size, 0, none⟩) bs.length (bs.map B8) := by
  refine ⟨by simp, fun _ => ⟨_, rfl, Nat.lt_succ_self _, fun j u hu => ?_⟩⟩
  have e : (⟨w.heap.size, 0, none⟩ : Addr).add j = ⟨w.heap.size, j, none⟩ := by unfold Addr.add; split <;> simp_all
  rw [e, cell_of_row _ _ _ _ t fr (heap_alloc_new w _)]
  simpa using hu

set_option maxRecDepth 100000 in
theorem alive_any (w : World) (ht : Tab w) : Calls Tryd.prog 10 #[] w fun e w' => e = .returned (.bool true) ∧ Below w.heap.size w w' := by
  have kc := fun (w : World) (C : Array Value) (n c : Nat) => Lib.run_convert_bytes_const (P := Tryd.prog) w 22 5 C n c Tryd.underlying22 Tryd.underlying5
  have hb : ∀ o, Below w.heap.size w (w.alloc o) := fun o => (Below.refl _ _).alloc (Nat.le_refl _) o
  have hr := new_reads w 5 (9, 10) digits
  have C := sum_any (some ⟨w.heap.size, 0, none⟩) 9 9 _ digits _ (ht.below (hb _) ht.pos) hr (by simp) (Nat.le_refl _) (by unfold maxLen; omega)
  have e : (digits.map B8).toArray = #[.int .u8 49, .int .u8 50, .int .u8 51, .int .u8 52, .int .u8 53, .int .u8 54, .int .u8 55, .int .u8 56, .int .u8 57] := rfl
  rw [digits_sum, e] at C
  clear e
  replace C := Lib.hid C
  replace hb := Lib.hid hb
  clear hr ht
  go_enter Tryd.func10, Tryd.ntmps10
  go_wp2_with fail
  refine C.out.mono ?_; rintro e w1 ⟨rfl, hB⟩
  go_wp2_with fail
  go_ret
  exact ⟨rfl, below_then (hb.out _) hB⟩

set_option maxRecDepth 100000 in
set_option maxHeartbeats 4000000 in
theorem crcSums_walk (A : Option Addr) (n c : Nat) (bs : List UInt8) (cut : Nat) (w : World) (l1 : n ≤ c) (m1 : c ≤ maxLen) (h1 : Reads w w.heap.size 1 A n (bs.map B8)) (hcut : cut < 65536) (ht : Tab w) :
    Calls Tryd.prog 3 #[.slice A n c, .int .u16 cut] w fun e w' => e = .returned (.bool true) ∧ Below w.heap.size w w' := by
  have T := Lib.hid ht
  have H := Lib.hid h1
  have L := Lib.hid h1.len
  clear ht h1
  go_enter Tryd.func3, Tryd.ntmps3
  go_wp2_with fail
  refine (alive_any _ T.out).mono ?_; rintro e w1 ⟨rfl, hB1⟩
  by_cases hn : (5000 : Int) < n
  · go_wp2_with fail
    go_ret
    exact ⟨rfl, hB1⟩
  go_wp2_with fail
  obtain ⟨k, hk, hkn⟩ : ∃ k : Nat, (cut : Int) % ((n : Int) + 1) = (k : Int) ∧ k ≤ n := by
    have : cut % (n + 1) < n + 1 := Nat.mod_lt _ (by omega)
    exact ⟨cut % (n + 1), by rw [Int.natCast_emod]; rfl, by omega⟩
  rw [hk]
  clear hk hcut
  have hk0 : (k : Int) ≤ (c : Int) := by omega
  have hk1 : (k : Int) ≤ (n : Int) := by omega
  have HB1 := Lib.hid hB1
  clear hB1
  have C1 : Hid (∀ W, Below w.heap.size w W → Calls Tryd.prog 11 #[.slice A n c] W fun e w' => e = .returned (.int .u32 (Crcp.sum bs)) ∧ Below W.heap.size W w') := fun W hW =>
    sum_any A n c w.heap.size bs W (T.out.below hW T.out.pos) (H.out.below hW) hW.size l1 m1
  have C2 : Hid (∀ W, Below w.heap.size w W → Calls Tryd.prog 12 #[.slice A n c] W fun e w' => e = .returned (.int .u32 (Crcp.sum bs)) ∧ W = w') := fun W hW =>
    refSum_any A n c w.heap.size bs W (H.out.below hW) (Nat.le_trans l1 m1)
  have C3 : Hid (∀ W, Below w.heap.size w W → Calls Tryd.prog 11 #[.slice A k c] W fun e w' => e = .returned (.int .u32 (Crcp.sum (bs.take k))) ∧ Below W.heap.size W w') := fun W hW => by
    exact sum_any A k c w.heap.size (bs.take k) W (T.out.below hW T.out.pos) ((H.out.below hW).takeN hkn) hW.size (by omega) m1
  have hsum : Crcp.more (Crcp.sum (bs.take k)) (bs.drop k) = Crcp.sum bs := by
    show Crcp.more (Crcp.more 0 (bs.take k)) (bs.drop k) = Crcp.sum bs
    rw [← Crcp.more_append, List.take_append_drop]; rfl
  have C5 : Hid (∀ W W', Below w.heap.size w W → Below (W.alloc (.cells #[.slice (cutA A c k 1) (n - k) (c - k)] 22)).heap.size (W.alloc (.cells #[.slice (cutA A c k 1) (n - k) (c - k)] 22)) W' → Calls Tryd.prog 13 #[.int .u32 ((Crcp.sum (bs.take k) : Nat) : Int), .slice (some ⟨W.heap.size, 0, none⟩) 1 1] W' fun e w' => e = .returned (.int .u32 (Crcp.sum bs)) ∧ W' = w') := fun W W' hW hW' => by
    have h := more_any (Crcp.sum (bs.take k)) _ 1 1 _ [bs.drop k] _ (Crcp.sum_lt _) ((T.out.below (below_alloc hW _) T.out.pos).below hW' (by have := hW.size; have := T.out.pos; have : (W.alloc (.cells #[.slice (cutA A c k 1) (n - k) (c - k)] 22)).heap.size = W.heap.size + 1 := World.size_alloc _ _; omega)) (((rows8_one 22 ((H.out.below hW).cutN hkn l1) hW.size (Nat.sub_le_sub_right l1 k) (Nat.le_trans (Nat.sub_le _ _) m1)).more (B' := (W.alloc (.cells #[.slice (cutA A c k 1) (n - k) (c - k)] 22)).heap.size) (by simp)).below hW') (by unfold maxLen; omega)
    simp only [List.flatten_cons, List.flatten_nil, List.append_nil] at h
    rw [hsum] at h
    exact h
  have C6 : Hid (∀ W, Below w.heap.size w W → Calls Tryd.prog 13 #[.int .u32 ((Crcp.sum bs : Nat) : Int), .slice none 0 0] W fun e w' => e = .returned (.int .u32 (Crcp.sum bs)) ∧ W = w') := fun W hW => by
    have h := more_any (Crcp.sum bs) none 0 0 0 [] W (Crcp.sum_lt _) (T.out.below hW T.out.pos) (rows8_nil _ _) (by unfold maxLen; omega)
    rw [show ([] : List (List UInt8)).flatten = [] from rfl, Crcp.more_nil] at h
    exact h
  have C7 : Hid (∀ W g, g = W.heap.size → Below w.heap.size w W → Calls Tryd.prog 13 #[.int .u32 0, .slice (some ⟨g, 0, none⟩) 3 3] (W.alloc (.cells #[.slice A k c, .slice none 0 0, .slice (cutA A c k 1) (n - k) (c - k)] 22)) fun e w' => e = .returned (.int .u32 (Crcp.sum bs)) ∧ W.alloc (.cells #[.slice A k c, .slice none 0 0, .slice (cutA A c k 1) (n - k) (c - k)] 22) = w') := fun W g hg hW => by
    subst hg
    have h := more_any 0 _ 3 3 _ [bs.take k, [], bs.drop k] _ (by omega) (T.out.below (below_alloc hW _) T.out.pos) (rows8_new (w := W) 22 [.slice A k c, .slice none 0 0, .slice (cutA A c k 1) (n - k) (c - k)] [bs.take k, [], bs.drop k] hW.size rfl (fun i xs hi => by
      match i, hi with
      | 0, hi => simp at hi; subst hi; exact ⟨_, _, _, rfl, Nat.le_trans hkn l1, m1, (H.out.below hW).takeN hkn⟩
      | 1, hi => simp at hi; subst hi; exact ⟨_, _, _, rfl, by omega, by unfold maxLen; omega, Reads.none_⟩
      | 2, hi => simp at hi; subst hi; exact ⟨_, _, _, rfl, Nat.sub_le_sub_right l1 k, Nat.le_trans (Nat.sub_le _ _) m1, (H.out.below hW).cutN hkn l1⟩)) (by unfold maxLen; omega)
    simp only [List.flatten_cons, List.flatten_nil, List.append_nil, List.nil_append, List.take_append_drop] at h
    exact h
  obtain ⟨i0, hi, hz0, hz1, hz2⟩ := info_parts info_u8
  have hsl := run_cut_lo (P := Tryd.prog) 22 5 i0 1 Tryd.underlying22 hi hz1 A n c k .i64 hkn
  clear hi hz0 hz1 hz2
  clear l1 hn hsum
  go_region_held3 (fun w' => Below w.heap.size w w')
    (first | assumption | exact HB1.out | (repeat (first | assumption | exact HB1.out | (with_reducible refine below_alloc ?_ _) | (with_reducible refine Below.drew ?_))))
    (first
      | (go_at_call 11; ((with_reducible refine (C1.out _ (by repeat (first | assumption | exact HB1.out | (with_reducible refine below_alloc ?_ _) | (with_reducible refine Below.drew ?_)))).mono ?_); rintro e w2 ⟨rfl, hB2⟩; have hS2 := below_then (by repeat (first | assumption | exact HB1.out | (with_reducible refine below_alloc ?_ _) | (with_reducible refine Below.drew ?_))) hB2))
      | (go_at_call 12; ((with_reducible refine (C2.out _ (by repeat (first | assumption | exact HB1.out | (with_reducible refine below_alloc ?_ _) | (with_reducible refine Below.drew ?_)))).mono ?_); rintro e w' ⟨rfl, rfl⟩))
      | (go_at_call 11; ((with_reducible refine (C3.out _ (by repeat (first | assumption | exact HB1.out | (with_reducible refine below_alloc ?_ _) | (with_reducible refine Below.drew ?_)))).mono ?_); rintro e w3 ⟨rfl, hB3⟩; have hS3 := below_then (by repeat (first | assumption | exact HB1.out | (with_reducible refine below_alloc ?_ _) | (with_reducible refine Below.drew ?_))) hB3))
      | (go_at_call 13; ((with_reducible refine (C5.out _ _ (by repeat (first | assumption | exact HB1.out | (with_reducible refine below_alloc ?_ _) | (with_reducible refine Below.drew ?_))) (Below.refl _ _)).mono ?_); rintro e w' ⟨rfl, rfl⟩))
      | (go_at_call 13; ((with_reducible refine (C5.out _ _ (by repeat (first | assumption | exact HB1.out | (with_reducible refine below_alloc ?_ _) | (with_reducible refine Below.drew ?_))) hB3).mono ?_); rintro e w' ⟨rfl, rfl⟩))
      | (go_at_call 13; ((with_reducible refine (C6.out _ (by repeat (first | assumption | exact HB1.out | (with_reducible refine below_alloc ?_ _) | (with_reducible refine Below.drew ?_)))).mono ?_); rintro e w' ⟨rfl, rfl⟩))
      | (go_at_call 13; ((with_reducible refine (C7.out _ _ (by first | rfl | simp) (by repeat (first | assumption | exact HB1.out | (with_reducible refine below_alloc ?_ _) | (with_reducible refine Below.drew ?_)))).mono ?_); rintro e w' ⟨rfl, rfl⟩)))
  all_goals
    go_wp2_with fail
    go_ret
    exact ⟨rfl, by repeat (first | assumption | exact HB1.out | (with_reducible refine below_alloc ?_ _) | (with_reducible refine Below.drew ?_))⟩
end Go.Proofs.YtejbfndcaiphoaaDoor
