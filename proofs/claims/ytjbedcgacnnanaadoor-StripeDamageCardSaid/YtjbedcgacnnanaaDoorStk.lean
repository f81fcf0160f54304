/-
  slices.Concat over bytes, walked.
-/
import Derived.Test.YtjbedcgacnnanaaDoorRsk
import Derived.Lib.AppendZeros
import Derived.Lib.SliceRun
namespace Go.Proofs.YtjbedcgacnnanaaDoor
set_option linter.unusedSimpArgs false
set_option linter.unusedVariables false
open Go.RowKit

set_option maxRecDepth 100000 in
set_option maxHeartbeats 4000000 in
theorem grow8_nil (n : Nat) (w : World) (hn : n ≤ 1000000000) : Calls Tryd.prog 69 #[.slice none 0 0, .int .i64 n] w fun e w' => ∃ A c, e = .returned (.slice A 0 c) ∧ w'.ownsRow w.heap.size 5 1 (.slice A 0 c) 0 [] ∧ Below w.heap.size w w' := by
  obtain ⟨i0, hi, hz0, hz1, hz2⟩ := info_parts info_u8
  by_cases h0 : n = 0
  · subst h0
    go_enter Tryd.func69, Tryd.ntmps69
    go_wp2_with fail
    go_ret
    exact ⟨none, 0, rfl, World.ownsRow_nil _ _ _ 1, Below.refl _ _⟩
  · have hn0 : (0 : Int) < (n : Int) := by omega
    have hge := grownCap_ge w n 0 5
    have hcm : grownCap w n 0 5 ≤ maxLen := grownCap_le_maxLen w n 0 5 (by unfold maxLen; omega)
    have hrz : ∀ ty, (Builtin.append_ #[27, 3] ty #[.slice none 0 0, .int .i64 n]).run Tryd.prog w =
      .ok (.slice (some ⟨w.heap.size, 0, none⟩) n (grownCap w n 0 5)) (w.drew.alloc (.cells (Builtin.zeroCells (Value.int .u8 0).cells n ++ Builtin.zeroCells (Value.int .u8 0).cells (grownCap w n 0 5 - n)) 5)) := fun ty => Lib.run_append_nil_zeros w _ _ ty _ i0 (Value.int .u8 0) .i64 .i64 Tryd.underlying27 Tryd.underlying3 hi hz0 n (by omega) (by omega) (by omega) (by rw [hz2]; omega)
    generalize grownCap w n 0 5 = G at *
    have hcs : (Builtin.zeroCells (Value.int .u8 0).cells n ++ Builtin.zeroCells (Value.int .u8 0).cells (G - n)).size = G * 1 := by rw [Array.size_append, zeroCells_size _ _ rfl, zeroCells_size _ _ rfl]; omega
    generalize Builtin.zeroCells (Value.int .u8 0).cells n ++ Builtin.zeroCells (Value.int .u8 0).cells (G - n) = C at *
    have hG63 : G ≤ 9223372036854775807 := by unfold maxLen at hcm; omega
    replace hcs := Lib.hid hcs
    replace hcm := Lib.hid hcm
    replace hz1 := Lib.hid hz1; replace hz2 := Lib.hid hz2; replace hi := Lib.hid hi; replace hz0 := Lib.hid hz0
    go_enter Tryd.func69, Tryd.ntmps69
    go_wp2_with (at_builtin; refine Lib.wpList_append_run _ rfl _ _ _ _ rfl _ _ rfl rfl _ _ (hrz _) ?_)
    all_goals
      go_ret
      exact ⟨_, _, rfl, World.ownsRow_made w.drew C G (Nat.le_refl _) hcm.out hcs.out, (Below.refl _ _).drew.alloc (Nat.le_refl _) _⟩

set_option maxRecDepth 100000 in
set_option maxHeartbeats 4000000 in
theorem concat8_any (A : Option Addr) (m c : Nat) (vss : List (List Value)) (w : World) (hm : m ≤ 100000) (ht : total vss ≤ 1000000000) (h : Slabs w w.heap.size A m vss) :
    Calls Tryd.prog 49 #[.slice A m c] w fun e w' => ∃ A' c', e = .returned (.slice A' (total vss) c') ∧ w'.ownsRow w.heap.size 5 1 (.slice A' (total vss) c') (total vss) vss.flatten ∧ Below w.heap.size w w' := by
  have H := Lib.hid (fun W (hW : Below w.heap.size w W) => h.below hW)
  have HL := Lib.hid h.len
  obtain ⟨i0, hi, hz0, hz1, hz2⟩ := info_parts info_u8
  replace hi := Lib.hid hi; replace hz0 := Lib.hid hz0; replace hz1 := Lib.hid hz1; replace hz2 := Lib.hid hz2
  have TT := Lib.hid (fun j => total_take vss j)
  have TA : Hid (∀ j, m ≤ j → vss.take j = vss) := fun j hj => List.take_of_length_le (by rw [h.len]; exact hj)
  have GR := Lib.hid (fun n W hn => grow8_nil n W hn)
  clear h
  obtain ⟨T, hT⟩ : ∃ T, total vss = T := ⟨_, rfl⟩
  rw [hT] at TT ht ⊢
  replace hT := Lib.hid hT
  go_enter Tryd.func49, Tryd.ntmps49
  go_wp2_with fail
  go_loop [11, 3] (fun v11 v3 => ∃ j s : Nat, v11 = .int .i64 j ∧ v3 = .int .i64 s ∧ j ≤ m ∧ s ≤ 1000000000 ∧ Hid (s = total (vss.take j))) (fun v11 _ => m - (intOf v11).toNat)
  case atStart => exact ⟨0, 0, rfl, rfl, by omega, by omega, by show 0 = total (vss.take 0); simp [total]⟩
  case round =>
    obtain ⟨j, s, rfl, rfl, hjm, hs, HS⟩ := hrel
    by_cases hlt : j < m
    · have hlt' : (j : Int) < (m : Int) := by omega
      obtain ⟨ad, Aj, nj, cj, vs, hA, hv, hc, hr, -⟩ := (H.out w (Below.refl _ _)).at_ j hlt
      subst hA
      have hnl : Hid (s + nj = total (vss.take (j + 1))) := by unfold Hid; rw [total_step hv, ← HS.out]; have := hr.1; omega
      have hle := TT.out (j + 1)
      rw [← hnl.out] at hle
      clear hv hr
      have hsum : (s : Int) + (nj : Int) = ((s + nj : Nat) : Int) := by omega
      generalize s + nj = s2 at *
      go_wp2_with fail
      go_round
      case rel => exact ⟨j + 1, s2, by go_num, rfl, by omega, by omega, hnl⟩
      case measure => simp [intOf]; omega
    · have hge : (m : Int) ≤ (j : Int) := by omega
      have hTs : Hid (s = T) := by unfold Hid; rw [HS.out, TA.out j (by omega)]; exact hT.out
      have hs2 := hTs.out
      subst hs2
      clear HS hTs
      go_wp2_with fail
      refine (GR.out _ _ hs).mono ?_; rintro e w1 ⟨A1, c1, rfl, ho1, hB1⟩
      have HO1 : Hid (w1.ownsRow w.heap.size 5 1 (.slice A1 0 c1) 0 (vss.take 0).flatten) := by unfold Hid; rw [List.take_zero]; exact ho1
      replace hB1 := Lib.hid hB1
      clear ho1 GR
      go_wp2_with fail
      go_loopw [27, 6] (fun v27 v6 wr => ∃ (j n6 c6 : Nat) (A6 : Option Addr), v27 = .int .i64 j ∧ v6 = .slice A6 n6 c6 ∧ j ≤ m ∧ n6 ≤ 1000000000 ∧ Hid (n6 = total (vss.take j)) ∧ Hid (Below w.heap.size w wr) ∧ Hid (wr.ownsRow w.heap.size 5 1 (.slice A6 n6 c6) n6 (vss.take j).flatten)) (fun v27 _ _ => m - (intOf v27).toNat)
      case atStart => exact ⟨0, 0, c1, A1, rfl, rfl, by omega, by omega, by show 0 = total (vss.take 0); simp [total], hB1, HO1⟩
      case round =>
        clear hB1 HO1
        obtain ⟨j, n6, c6, A6, rfl, rfl, hjm, hn6, HS, HB, HO⟩ := hrel
        by_cases hlt : j < m
        · have hlt' : (j : Int) < (m : Int) := by omega
          obtain ⟨ad, Aj, nj, cj, vs, hA, hv, hc, hr, hone⟩ := (H.out wr HB.out).at_ j hlt
          subst hA
          have hnl : Hid (n6 + nj = total (vss.take (j + 1))) := by unfold Hid; rw [total_step hv, ← HS.out]; have := hr.1; omega
          have hle := TT.out (j + 1)
          rw [← hnl.out] at hle
          have hfl := Lib.hid (flat_step hv)
          have hm1 : n6 + nj ≤ maxLen := by unfold maxLen; omega
          have hm2 : (n6 + nj) * 1 ≤ 140737488355328 := by omega
          replace hr := Lib.hid hr
          replace hone := Lib.hid hone
          clear hv
          go_wp2_with (at_builtin; refine wpList_append_any _ rfl (.tmp 31) (.tmp 32) 27 rfl w.heap.size 5 i0 (Value.int .u8 0) 1 1 Tryd.underlying27 hi.out hz0.out hz1.out hz2.out rfl (by omega) A6 n6 c6 _ rfl HO.out wr.heap.size Aj nj cj _ rfl hr.out hone.out hm1 hm2 HB.out.size ?_; intro A3 c3 w4 ho4 hgq _hsq; have hB4 : Below w.heap.size w w4 := below_app HB.out hgq HO.out HB.out.size; replace ho4 := Lib.hid ho4; replace hB4 := Lib.hid hB4; clear hgq _hsq)
          go_roundw
          case rel => exact ⟨j + 1, n6 + nj, c3, A3, by go_num, rfl, by omega, by omega, hnl, hB4, by rw [hfl.out]; exact ho4.out⟩
          case measure => simp [intOf]; omega
        · have hge : (m : Int) ≤ (j : Int) := by omega
          have hTs : Hid (n6 = s) := by unfold Hid; rw [HS.out, TA.out j (by omega)]; exact hT.out
          have hs2 := hTs.out
          subst hs2
          have hall := TA.out j (by omega)
          rw [hall] at HO
          replace hall := Lib.hid hall
          go_wp2_with fail
          go_ret
          exact ⟨A6, c6, rfl, HO.out, HB.out⟩
end Go.Proofs.YtjbedcgacnnanaaDoor
