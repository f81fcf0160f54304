/-
  The laws LzBack and LzPlays.
-/
import Derived.Test.YtiakpffmjkkniaaLzv
import Derived.Test.YtiakpffmjkkniaaSame
import Derived.OpenShut
namespace Go.Proofs.Ytiakpffmjkkniaa
set_option linter.unusedSimpArgs false
set_option linter.unusedVariables false
open Go.RowKit Go.Maps Go.ChangeShapes

set_option maxRecDepth 100000 in
set_option maxHeartbeats 1000000 in
theorem lzPlays_walk (A : Option Addr) (n c : Nat) (l : List (Nat × Int × Int)) (most : Int) (w : World) (l1 : n ≤ c) (m1 : c ≤ maxLen) (h1 : Reads w w.heap.size 3 A n (itsC l) ∧ ∀ t ∈ l, t.1 < 256) (hm0 : (Lit.int .i64 most).wf = true) :
    Calls Try.prog 8 #[.slice A n c, .int .i64 most] w fun e w' => e = .returned (.bool true) ∧ Below w.heap.size w w' := by
  have hm := bounds_i64 hm0
  have hn : l.length = n := by have := h1.1.1; rw [itsC_len] at this; omega
  subst hn
  have H := Lib.hid h1.1
  have HL := Lib.hid h1.2
  clear h1 l1 m1
  go_enter Try.func8, Try.ntmps8
  go_wp2_with fail
  refine (alive_any _).mono ?_; rintro e w1 ⟨rfl, hB1⟩
  have HB1 := Lib.hid hB1
  clear hB1
  by_cases hn : (300 : Int) < l.length
  · go_wp2_with fail
    go_ret
    exact ⟨rfl, HB1.out⟩
  have hn2 : l.length ≤ 10000 := by omega
  have P1 := Lib.hid (play_any A c w.heap.size most l w1 (H.out.below HB1.out) HB1.out.size hn2 HL.out (by omega))
  have P2 := fun W (hW : Below w.heap.size w W) => refPlay_any A c w.heap.size most l W (H.out.below hW) hW.size hn2 HL.out (by omega)
  replace P2 := Lib.hid P2
  generalize Lzp.play most l = pv at *
  obtain ⟨E, V⟩ := pv
  go_wp2_with fail
  refine P1.out.mono ?_; rintro e w2 ⟨A2, c2, rfl, ho2, hB2⟩
  have HB2 := Lib.hid (below_then HB1.out hB2)
  have HO2 := Lib.hid ho2
  clear hB2 ho2
  go_wp2_with fail
  refine (P2.out w2 HB2.out).mono ?_; rintro e w3 ⟨A3, c3, rfl, ho3, hB3⟩
  have HB3 := Lib.hid (below_then HB2.out hB3)
  have HO4 := Lib.hid (own_belowL HO2.out hB3)
  have HO3 := Lib.hid ho3
  clear hB3 ho3
  have S := Lib.hid (same_any A2 A3 V.length V.length c2 c3 _ _ V V w3 (Reads.of_own HO4.out) (Reads.of_own HO3.out))
  go_wp2_with fail
  refine S.out.mono ?_; rintro e w' ⟨rfl, rfl⟩
  go_wp2_with fail
  go_ret
  exact ⟨ret_bool (by simp), HB3.out⟩

set_option maxRecDepth 100000 in
set_option maxHeartbeats 1000000 in
theorem lzBack_walk (A : Option Addr) (n c : Nat) (bs : List UInt8) (most : Nat) (w : World) (l1 : n ≤ c) (m1 : c ≤ maxLen) (h1 : Reads w w.heap.size 1 A n (bs.map B8)) (hm : most < 65536) :
    Calls Try.prog 7 #[.slice A n c, .int .u16 most] w fun e w' => e = .returned (.bool true) ∧ Below w.heap.size w w' := by
  have H := Lib.hid h1
  clear h1 l1 m1
  go_enter Try.func7, Try.ntmps7
  go_wp2_with fail
  refine (alive_any _).mono ?_; rintro e w1 ⟨rfl, hB1⟩
  have HB1 := Lib.hid hB1
  clear hB1
  by_cases hn : (3000 : Int) < n
  · go_wp2_with fail
    go_ret
    exact ⟨rfl, HB1.out⟩
  have hn2 : n < 4294967296 := by omega
  have L : Hid (bs.length = n) := H.out.len
  have F1 := Lib.hid (find_any A n c w.heap.size bs w1 (H.out.below HB1.out) HB1.out.size hn2)
  have hlen : (Lzp.find bs).length ≤ n := by have := Lzp.find_len bs; rw [L.out] at this; exact this
  have HLT := Lib.hid (fun t h => (Lzp.find_lt bs t h).1)
  have HP := fun m h => Lib.hid (Lzp.play_find bs m h)
  rw [L.out] at HP
  generalize Lzp.find bs = l at *
  go_wp2_with fail
  refine F1.out.mono ?_; rintro e w2 ⟨A2, c2, rfl, ho2, hB2⟩
  have HB2 := Lib.hid (below_then HB1.out hB2)
  have HR2 : Hid (Reads w2 w2.heap.size 3 A2 l.length (itsC (l.map Lzp.it))) := by
    have h := Reads.of_own ho2
    rw [toksC_its]; exact h
  clear hB2 ho2 F1
  have P := fun W (hW : Below w2.heap.size w2 W) (m : Int) (hm2 : m ≤ 9223372036854775807) => play_any A2 c2 w2.heap.size m (l.map Lzp.it) W (by rw [List.length_map]; exact HR2.out.below hW) hW.size (by rw [List.length_map]; omega) (fun t ht => by
    obtain ⟨t', ht', rfl⟩ := List.mem_map.1 ht
    exact HLT.out t' ht') hm2
  have P1 := P w2 (Below.refl _ _) (n : Int) (by omega)
  rw [(HP (n : Int) (by omega)).out, if_neg (by omega), List.length_map] at P1
  replace P1 := Lib.hid P1
  replace P := Lib.hid P
  go_wp2_with fail
  refine P1.out.mono ?_; rintro e w3 ⟨A3, c3, rfl, ho3, hB3⟩
  have HB3 := Lib.hid (below_then HB2.out hB3)
  have HB23 := Lib.hid hB3
  have HO3 := Lib.hid (Reads.of_own ho3)
  clear hB3 ho3
  have S1 := same_any A3 A bs.length n c3 c _ _ bs bs w3 HO3.out (H.out.below HB3.out)
  simp only [decide_true] at S1
  replace S1 := Lib.hid S1
  have P2 := P.out w3 HB23.out (most : Int) (by omega)
  rw [(HP (most : Int) (by omega)).out, List.length_map] at P2
  have hll : (l.length : Int) ≤ (n : Int) := by omega
  by_cases hmn : (most : Int) < (n : Int)
  · rw [if_pos hmn] at P2
    replace P2 := Lib.hid P2
    go_wp2_with fail
    refine S1.out.mono ?_; rintro e w' ⟨rfl, rfl⟩
    go_wp2_with fail
    refine P2.out.mono ?_; rintro e w4 ⟨A4, c4, rfl, ho4, hB4⟩
    go_wp2_with fail
    go_ret
    exact ⟨rfl, below_then HB3.out hB4⟩
  · rw [if_neg hmn] at P2
    replace P2 := Lib.hid P2
    have hmn' : (n : Int) ≤ (most : Int) := by omega
    go_wp2_with fail
    refine S1.out.mono ?_; rintro e w' ⟨rfl, rfl⟩
    go_wp2_with fail
    refine P2.out.mono ?_; rintro e w4 ⟨A4, c4, rfl, ho4, hB4⟩
    have HB4 := Lib.hid (below_then HB3.out hB4)
    have S2 := same_any A4 A bs.length n c4 c _ _ bs bs w4 (Reads.of_own ho4) (H.out.below HB4.out)
    simp only [decide_true] at S2
    replace S2 := Lib.hid S2
    clear ho4 hB4
    go_wp2_with fail
    refine S2.out.mono ?_; rintro e w' ⟨rfl, rfl⟩
    go_wp2_with fail
    go_ret
    exact ⟨rfl, HB4.out⟩
end Go.Proofs.Ytiakpffmjkkniaa
