/-
  The laws of mending: alive; RsParity, RsMends, RsRight, walked.
-/
import Derived.Test.YtjbedcgacnnanaaRsm
import Derived.Test.YtjbedcgacnnanaaRsn
import Derived.Test.YtjbedcgacnnanaaRsq
import Derived.Lib.SlBytesConst
namespace Go.Proofs.Ytjbedcgacnnanaa
set_option linter.unusedSimpArgs false
set_option linter.unusedVariables false
open Go.RowKit

theorem Rsp.alive_val : Rsp.mendE 1 1 [[97], []] [true, false] = 0 ∧ Rsp.mendV 1 1 [[97], []] [true, false] = [[97], [97]] := by decide +kernel
theorem rowL {W : World} {b0 base n c k : Nat} {A : Option Addr} {xss : List (List UInt8)} {xs : List UInt8} (h : Lists W b0 base A n c xss) (hk : xss[k]? = some xs) : ∃ g Ai ci, A = some ⟨g, 0, none⟩ ∧ W.cell? ⟨g, k, none⟩ = some (.slice Ai xs.length ci) ∧ Reads W W.heap.size 1 Ai xs.length (xs.map B8) := by
  obtain ⟨⟨vs, h1, h2, h3⟩, hb, h0⟩ := h
  obtain ⟨Ai, ci, e, hr⟩ := h3 k xs hk
  have hkn : k < n := by have := (List.getElem?_eq_some_iff.1 hk).1; omega
  obtain ⟨g, cap, hv, _, _⟩ := h1.form (by omega)
  have hA : A = some ⟨g, 0, none⟩ := by injection hv
  subst hA
  exact ⟨g, Ai, ci, rfl, by rw [h1.cellAt k (by omega)]; exact e, hr.reads h0 hb⟩
set_option maxRecDepth 100000 in
set_option maxHeartbeats 4000000 in
theorem rsAlive_any (w : World) : Calls Try.prog 9 #[] w fun e w' => e = .returned (.bool true) ∧ Below w.heap.size w w' := by
  have kc := fun (w : World) (C : Array Value) (n c : Nat) => Lib.run_convert_bytes_const (P := Try.prog) w 35 5 C n c Try.underlying35 Try.underlying5
  have hb0 : (w.alloc (.cells #[.int .u8 97] 5 (1, 2))).cell? ⟨w.heap.size, 0, none⟩ = some (.int .u8 97) := cell_of_row _ _ 0 #[.int .u8 97] 5 (1, 2) (heap_alloc_new w _)
  have hb00 : w.heap.size < (w.alloc (.cells #[.int .u8 97] 5 (1, 2))).heap.size := by simp
  have hb1 := Blk.new (w.alloc (.cells #[.int .u8 97] 5 (1, 2))) 35 #[.slice (some ⟨w.heap.size, 0, none⟩) 1 1, .slice none 0 0]
  have hB : Below w.heap.size w (((w.alloc (.cells #[.int .u8 97] 5 (1, 2))).alloc (.cells #[.slice (some ⟨w.heap.size, 0, none⟩) 1 1, .slice none 0 0] 35)).alloc (.cells #[.bool true, .bool false] 4)) := (((Below.refl _ w).alloc (Nat.le_refl _) _).alloc (by simp) _).alloc (by simp; omega) _
  have hb2 := Blk.new ((w.alloc (.cells #[.int .u8 97] 5 (1, 2))).alloc (.cells #[.slice (some ⟨w.heap.size, 0, none⟩) 1 1, .slice none 0 0] 35)) 4 #[.bool true, .bool false]
  replace hb0 := (World.cell?_alloc_lt _ (.cells #[.bool true, .bool false] 4) ⟨w.heap.size, 0, none⟩ (by simp; omega)).trans ((World.cell?_alloc_lt _ (.cells #[.slice (some ⟨w.heap.size, 0, none⟩) 1 1, .slice none 0 0] 35) ⟨w.heap.size, 0, none⟩ (by simp)).trans hb0)
  replace hb1 := hb1.alloc (.cells #[.bool true, .bool false] 4)
  have e1 : (w.alloc (.cells #[.int .u8 97] 5 (1, 2))).heap.size = w.heap.size + 1 := by simp
  have e2 : ((w.alloc (.cells #[.int .u8 97] 5 (1, 2))).alloc (.cells #[.slice (some ⟨w.heap.size, 0, none⟩) 1 1, .slice none 0 0] 35)).heap.size = w.heap.size + 2 := by simp
  rw [e1] at hb1
  rw [e2] at hb2
  have KM : Hid (Calls Try.prog 15 #[.int .i64 1, .int .i64 1, .slice (some ⟨w.heap.size + 1, 0, none⟩) 2 2, .slice (some ⟨w.heap.size + 2, 0, none⟩) 2 2] (((w.alloc (.cells #[.int .u8 97] 5 (1, 2))).alloc (.cells #[.slice (some ⟨w.heap.size, 0, none⟩) 1 1, .slice none 0 0] 35)).alloc (.cells #[.bool true, .bool false] 4)) fun e w' => ∃ g c A0 c0 A1 c1, e = .returned (.tuple #[.slice (some ⟨g, 0, none⟩) 2 c, .int .i64 0]) ∧ w'.cell? ⟨g, 0, none⟩ = some (.slice A0 1 c0) ∧ w'.cell? ⟨g, 1, none⟩ = some (.slice A1 1 c1) ∧ Reads w' w'.heap.size 1 A0 1 ([97].map B8) ∧ Reads w' w'.heap.size 1 A1 1 ([97].map B8) ∧ Below w.heap.size w w') := by
    generalize (((w.alloc (.cells #[.int .u8 97] 5 (1, 2))).alloc (.cells #[.slice (some ⟨w.heap.size, 0, none⟩) 1 1, .slice none 0 0] 35)).alloc (.cells #[.bool true, .bool false] 4)) = W at *
    have hx : Rows8 W W.heap.size (some ⟨w.heap.size + 1, 0, none⟩) 2 [[97], []] := by
      refine ⟨[.slice (some ⟨w.heap.size, 0, none⟩) 1 1, .slice none 0 0], ⟨rfl, fun _ => ⟨_, rfl, hb1.lt, fun j u hu => ?_⟩⟩, rfl, fun i xs hi => ?_⟩
      · match j with
        | 0 => rw [add_zero_off, hb1.cell 0]; exact hu
        | 1 => rw [add_zero_off, hb1.cell 1]; exact hu
        | j + 2 => simp at hu
      · match i with
        | 0 =>
          simp at hi; subst hi
          refine ⟨_, 1, 1, rfl, Nat.le_refl _, by unfold maxLen; omega, rfl, fun _ => ⟨_, rfl, lt_of_cell hb0, fun j u hu => ?_⟩⟩
          match j with
          | 0 => rw [add_zero_off, hb0]; exact hu
          | j + 1 => simp at hu
        | 1 => simp at hi; subst hi; exact ⟨none, 0, 0, rfl, Nat.le_refl _, Nat.zero_le _, Reads.none_⟩
        | i + 2 => simp at hi
    have hg : Reads W W.heap.size 1 (some ⟨w.heap.size + 2, 0, none⟩) 2 ([true, false].map Value.bool) := by
      refine ⟨rfl, fun _ => ⟨_, rfl, hb2.lt, fun j u hu => ?_⟩⟩
      match j with
      | 0 => rw [add_zero_off, hb2.cell 0]; exact hu
      | 1 => rw [add_zero_off, hb2.cell 1]; exact hu
      | j + 2 => simp at hu
    have h := mend_in 1 1 2 (some ⟨w.heap.size + 1, 0, none⟩) (some ⟨w.heap.size + 2, 0, none⟩) 2 2 [[97], []] [true, false] W rfl (by omega) (by omega) hx hg (fun x hx => by rcases List.mem_cons.1 hx with h | h; rw [h]; simp; rw [List.mem_singleton.1 h]; simp)
    rw [show ((1 : Nat) : Int) = 1 from rfl] at h
    rw [Rsp.alive_val.1, Rsp.alive_val.2] at h
    refine h.mono ?_
    rintro e w' ⟨A, c, rfl, hl, hB2⟩
    obtain ⟨g, A0, c0, rfl, q0, r0⟩ := rowL hl (k := 0) rfl
    obtain ⟨g', A1, c1, hgg, q1, r1⟩ := rowL hl (k := 1) rfl
    obtain rfl : g = g' := by injection hgg with hgg; injection hgg
    exact ⟨g, c, A0, c0, A1, c1, rfl, q0, q1, r0, r1, below_then hB hB2⟩
  clear hb0 hb00 hb1 hb2 hB e1 e2
  go_enter Try.func9, Try.ntmps9
  go_wp2_with fail
  refine KM.out.mono ?_; rintro e w4 ⟨g, c, A0, c0, A1, c1, rfl, q0, q1, r0, r1, hB⟩
  have s0 := run_str (P := Try.prog) (w := w4) (c := c0) 35 9 5 Try.underlying35 Try.underlying5 Try.underlying9 r0
  have s1 := run_str (P := Try.prog) (w := w4) (c := c1) 35 9 5 Try.underlying35 Try.underlying5 Try.underlying9 r1
  replace hB := Lib.hid hB
  clear KM r0 r1
  go_wp2_with fail
  go_ret
  exact ⟨rfl, hB.out⟩
end Go.Proofs.Ytjbedcgacnnanaa
