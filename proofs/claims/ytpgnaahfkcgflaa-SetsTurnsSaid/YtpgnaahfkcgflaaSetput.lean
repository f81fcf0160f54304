/-
  The document's put and Any, walked.
-/
import Derived.Test.YtpgnaahfkcgflaaSetu
namespace Go.Proofs.Ytpgnaahfkcgflaa
set_option linter.unusedSimpArgs false
set_option linter.unusedVariables false
open Go.RowKit

set_option maxRecDepth 100000 in
set_option maxHeartbeats 8000000 in
theorem put_any (A : Option Addr) (n c B : Nat) (l : List Int) (x : Int) (w : World) (h : Reads w B 1 A n (l.map I64)) (hB : B ≤ w.heap.size) (hn : n ≤ 1000000000) :
    Calls Try.prog 36 #[.slice A n c, .int .i64 x] w (SlRet 3 w (Setp.ins l x).length ((Setp.ins l x).map I64)) := by
  have hl : l.length = n := by have := h.1; simpa using this
  have H := Lib.hid (fun (W : World) (hW : Below w.heap.size w W) => (h.below (hW.mono hB)).more hB)
  have L := Lib.hid hl
  have INS : Hid (∀ i (hi : i < l.length), (∀ y ∈ l.take i, y < x) → Setp.ins l x = l.take i ++ Setp.ins (l[i] :: l.drop (i + 1)) x) := fun i hi hy => by
    have e : l = l.take i ++ (l[i] :: l.drop (i + 1)) := by rw [← List.drop_eq_getElem_cons hi, List.take_append_drop]
    have h1 := Setp.ins_below (l.take i) (l[i] :: l.drop (i + 1)) x hy
    rw [← e] at h1
    exact h1
  have INE : Hid ((∀ y ∈ l, y < x) → Setp.ins l x = l ++ [x]) := fun hy => by
    have h1 := Setp.ins_below l [] x hy
    rw [List.append_nil, Setp.ins_nil] at h1
    exact h1
  obtain ⟨G, hG⟩ : ∃ G, Hid (Setp.ins l x = G) := ⟨_, rfl⟩
  rw [hG.out] at INE
  have INS2 : Hid (∀ i (hi : i < l.length), (∀ y ∈ l.take i, y < x) → G = l.take i ++ Setp.ins (l[i] :: l.drop (i + 1)) x) := fun i hi hy => by rw [← hG.out]; exact INS.out i hi hy
  rw [hG.out]
  obtain ⟨i0, hi, hz0, hz1, hz2⟩ := info_parts info_int
  replace hi := Lib.hid hi; replace hz0 := Lib.hid hz0; replace hz1 := Lib.hid hz1; replace hz2 := Lib.hid hz2
  clear h hl INS
  go_enter Try.func36, Try.ntmps36
  go_wp2_with fail
  go_loopw [5, 6, 7] (fun v5 v6 v7 wr => ∃ (i c' m : Nat) (A1 : Option Addr) (d : Bool) (out : List Int), v5 = .slice A1 m c' ∧ v6 = .bool d ∧ v7 = .int .i64 i ∧ i ≤ n ∧ m ≤ i + 1 ∧ Hid (Below w.heap.size w wr) ∧ Hid (out.length = m) ∧ Hid (wr.ownsRow w.heap.size 3 1 (.slice A1 m c') m (out.map I64)) ∧ Hid (d = false → out = l.take i ∧ ∀ y ∈ l.take i, y < x) ∧ Hid (d = true → out ++ l.drop i = G)) (fun _ _ v7 _ => n - (intOf v7).toNat)
  case atStart => exact ⟨0, 0, 0, none, false, [], rfl, rfl, rfl, by omega, by omega, Below.refl _ _, rfl, World.ownsRow_nil _ _ _ 1, fun _ => ⟨by simp, fun y hy => by simp at hy⟩, fun h => by cases h⟩
  case round =>
    obtain ⟨i, c', m, A1, d, out, rfl, rfl, rfl, hin, hmi, HB, HL, HO, HF, HT⟩ := hrel
    by_cases hlt : i < n
    · have hlt' : (i : Int) < n := by omega
      obtain ⟨ad, rfl, hcell⟩ := ints_cells (H.out wr HB.out) (by omega)
      have hix : i < l.length := by rw [L.out]; exact hlt
      have c1 := hcell i hix
      have CX : Hid (∀ W, Below w.heap.size w W → W.cell? (ad.add i) = some (.int .i64 l[i])) := fun W hW => by
        obtain ⟨ad1, hA1, hcell1⟩ := ints_cells (H.out W hW) (by omega)
        injection hA1 with hA1
        subst hA1
        exact hcell1 i hix
      have TK : Hid (l.take (i + 1) = l.take i ++ [l[i]]) := List.take_succ_eq_append_getElem hix
      have DR : Hid (l.drop i = l[i] :: l.drop (i + 1)) := List.drop_eq_getElem_cons hix
      have INi := Lib.hid (INS2.out i hix)
      clear hcell
      generalize l[i] = y at *
      have hb1 : m + 1 ≤ maxLen := by unfold maxLen; omega
      have hb2 : (m + 1) * 8 ≤ 140737488355328 := by omega
      cases d
      · obtain ⟨hout, hall⟩ := HF.out rfl
        subst hout
        have hmi2 : m ≤ i := by have := HL.out; rw [← this]; exact List.length_take_le _ _
        have INy := Lib.hid (INi.out hall)
        by_cases hgt : x < y
        · have hdg : decide (x < y) = true := by simpa using hgt
          have hne : ((y : Int) == x) = false := by rw [beq_eq_false_iff_ne]; omega
          have GG : Hid (l.take i ++ [x] ++ [y] ++ l.drop (i + 1) = G) := by rw [Hid, INy.out, Setp.ins_above y x _ hgt]; simp
          have hb3 : m + 1 + 1 ≤ maxLen := by unfold maxLen; omega
          have hb4 : (m + 1 + 1) * 8 ≤ 140737488355328 := by omega
          clear hgt
          go_wp2_with (first | (at_builtin; refine wpList_append_any _ rfl (.tmp 24) (.tmp 26) 25 rfl w.heap.size 3 i0 (.int .i64 0) 1 8 Try.underlying25 hi.out hz0.out hz1.out hz2.out rfl (by omega) A1 m c' _ rfl (HO.out.alloc (.cells #[.int .i64 x] 3)) (wr.heap.size + 1) _ 1 1 _ rfl (reads_one wr _ _) (one_one rfl) hb1 hb2 (show w.heap.size ≤ (wr.alloc (.cells #[.int .i64 x] 3)).heap.size from Nat.le_trans HB.out.size (by simp)) ?_; intro A3 c3 w4 ho4 hgq _hsq; have hB4 : Below w.heap.size w w4 := below_app (HB.out.alloc HB.out.size (.cells #[.int .i64 x] 3)) hgq (HO.out.alloc (.cells #[.int .i64 x] 3)) (show w.heap.size ≤ (wr.alloc (.cells #[.int .i64 x] 3)).heap.size from Nat.le_trans HB.out.size (by simp)); replace ho4 := Lib.hid ho4; replace hB4 := Lib.hid hB4; clear hgq _hsq; have ho4q : Hid (w4.ownsRow w.heap.size 3 1 (.slice A3 (m + 1) c3) (m + 1) ((l.take i ++ [x]).map I64)) := (by rw [List.map_append]; exact ho4.out); have c4 := CX.out w4 hB4.out; clear c1 ho4) | (at_builtin; refine wpList_append_any _ rfl (.tmp 34) (.tmp 39) 25 rfl w.heap.size 3 i0 (.int .i64 0) 1 8 Try.underlying25 hi.out hz0.out hz1.out hz2.out rfl (by omega) A3 (m + 1) c3 _ rfl (ho4q.out.alloc (.cells #[.int .i64 y] 3)) (w4.heap.size + 1) _ 1 1 _ rfl (reads_one w4 _ _) (one_one rfl) hb3 hb4 (show w.heap.size ≤ (w4.alloc (.cells #[.int .i64 y] 3)).heap.size from Nat.le_trans hB4.out.size (by simp)) ?_; intro A5 c5 w5 ho5 hgq _hsq; have hB5 : Below w.heap.size w w5 := below_app (hB4.out.alloc hB4.out.size (.cells #[.int .i64 y] 3)) hgq (ho4q.out.alloc (.cells #[.int .i64 y] 3)) (show w.heap.size ≤ (w4.alloc (.cells #[.int .i64 y] 3)).heap.size from Nat.le_trans hB4.out.size (by simp)); replace ho5 := Lib.hid ho5; replace hB5 := Lib.hid hB5; clear hgq _hsq))
          go_roundw
          case rel => exact ⟨i + 1, c5, m + 1 + 1, A5, true, l.take i ++ [x] ++ [y], rfl, rfl, by go_num, by omega, by omega, hB5, (by have := HL.out; simp only [List.length_append, List.length_cons, List.length_nil] at this ⊢; unfold Hid; omega), (by rw [List.map_append]; exact ho5), (fun h => by cases h), fun _ => GG.out⟩
          case measure => simp [intOf]; omega
        · have hdg : decide (x < y) = false := by simpa using hgt
          by_cases hy : y = x
          · have hyb : ((y : Int) == x) = true := by rw [beq_iff_eq]; exact hy
            have GG : Hid (l.take i ++ [y] ++ l.drop (i + 1) = G) := by rw [Hid, INy.out, ← hy, Setp.ins_same]; simp
            replace hy := Lib.hid hy
            clear hgt
            go_wp2_with (at_builtin; refine wpList_append_any _ rfl (.tmp 34) (.tmp 39) 25 rfl w.heap.size 3 i0 (.int .i64 0) 1 8 Try.underlying25 hi.out hz0.out hz1.out hz2.out rfl (by omega) A1 m c' _ rfl (HO.out.alloc (.cells #[.int .i64 y] 3)) (wr.heap.size + 1) _ 1 1 _ rfl (reads_one wr _ _) (one_one rfl) hb1 hb2 (show w.heap.size ≤ (wr.alloc (.cells #[.int .i64 y] 3)).heap.size from Nat.le_trans HB.out.size (by simp)) ?_; intro A3 c3 w4 ho4 hgq _hsq; have hB4 : Below w.heap.size w w4 := below_app (HB.out.alloc HB.out.size (.cells #[.int .i64 y] 3)) hgq (HO.out.alloc (.cells #[.int .i64 y] 3)) (show w.heap.size ≤ (wr.alloc (.cells #[.int .i64 y] 3)).heap.size from Nat.le_trans HB.out.size (by simp)); replace ho4 := Lib.hid ho4; replace hB4 := Lib.hid hB4; clear hgq _hsq)
            go_roundw
            case rel => exact ⟨i + 1, c3, m + 1, A3, true, l.take i ++ [y], rfl, rfl, by go_num, by omega, by omega, hB4, (by rw [Hid, List.length_append, HL.out]; rfl), (by rw [List.map_append]; exact ho4), (fun h => by cases h), fun _ => GG.out⟩
            case measure => simp [intOf]; omega
          · have hyb : ((y : Int) == x) = false := by rw [beq_eq_false_iff_ne]; exact hy
            have hyx : Hid (y < x) := by unfold Hid; omega
            clear hgt hy
            go_wp2_with (at_builtin; refine wpList_append_any _ rfl (.tmp 34) (.tmp 39) 25 rfl w.heap.size 3 i0 (.int .i64 0) 1 8 Try.underlying25 hi.out hz0.out hz1.out hz2.out rfl (by omega) A1 m c' _ rfl (HO.out.alloc (.cells #[.int .i64 y] 3)) (wr.heap.size + 1) _ 1 1 _ rfl (reads_one wr _ _) (one_one rfl) hb1 hb2 (show w.heap.size ≤ (wr.alloc (.cells #[.int .i64 y] 3)).heap.size from Nat.le_trans HB.out.size (by simp)) ?_; intro A3 c3 w4 ho4 hgq _hsq; have hB4 : Below w.heap.size w w4 := below_app (HB.out.alloc HB.out.size (.cells #[.int .i64 y] 3)) hgq (HO.out.alloc (.cells #[.int .i64 y] 3)) (show w.heap.size ≤ (wr.alloc (.cells #[.int .i64 y] 3)).heap.size from Nat.le_trans HB.out.size (by simp)); replace ho4 := Lib.hid ho4; replace hB4 := Lib.hid hB4; clear hgq _hsq)
            go_roundw
            case rel => exact ⟨i + 1, c3, m + 1, A3, false, l.take i ++ [y], rfl, rfl, by go_num, by omega, by omega, hB4, (by rw [Hid, List.length_append, HL.out]; rfl), (by rw [List.map_append]; exact ho4), (fun _ => ⟨TK.out.symm, fun z hz => by rw [TK.out] at hz; rcases List.mem_append.1 hz with h1 | h1; exact hall z h1; rw [List.mem_singleton.1 h1]; exact hyx.out⟩), fun h => by cases h⟩
            case measure => simp [intOf]; omega
      · have hGG : Hid (out ++ [y] ++ l.drop (i + 1) = G) := by rw [Hid, ← HT.out rfl, DR.out]; simp
        by_cases hy : y = x
        · have hyb : ((y : Int) == x) = true := by rw [beq_iff_eq]; exact hy
          replace hy := Lib.hid hy
          go_wp2_with (at_builtin; refine wpList_append_any _ rfl (.tmp 34) (.tmp 39) 25 rfl w.heap.size 3 i0 (.int .i64 0) 1 8 Try.underlying25 hi.out hz0.out hz1.out hz2.out rfl (by omega) A1 m c' _ rfl (HO.out.alloc (.cells #[.int .i64 y] 3)) (wr.heap.size + 1) _ 1 1 _ rfl (reads_one wr _ _) (one_one rfl) hb1 hb2 (show w.heap.size ≤ (wr.alloc (.cells #[.int .i64 y] 3)).heap.size from Nat.le_trans HB.out.size (by simp)) ?_; intro A3 c3 w4 ho4 hgq _hsq; have hB4 : Below w.heap.size w w4 := below_app (HB.out.alloc HB.out.size (.cells #[.int .i64 y] 3)) hgq (HO.out.alloc (.cells #[.int .i64 y] 3)) (show w.heap.size ≤ (wr.alloc (.cells #[.int .i64 y] 3)).heap.size from Nat.le_trans HB.out.size (by simp)); replace ho4 := Lib.hid ho4; replace hB4 := Lib.hid hB4; clear hgq _hsq)
          go_roundw
          case rel => exact ⟨i + 1, c3, m + 1, A3, true, out ++ [y], rfl, rfl, by go_num, by omega, by omega, hB4, (by rw [Hid, List.length_append, HL.out]; rfl), (by rw [List.map_append]; exact ho4), (fun h => by cases h), fun _ => hGG.out⟩
          case measure => simp [intOf]; omega
        · have hyb : ((y : Int) == x) = false := by rw [beq_eq_false_iff_ne]; exact hy
          clear hy
          go_wp2_with (at_builtin; refine wpList_append_any _ rfl (.tmp 34) (.tmp 39) 25 rfl w.heap.size 3 i0 (.int .i64 0) 1 8 Try.underlying25 hi.out hz0.out hz1.out hz2.out rfl (by omega) A1 m c' _ rfl (HO.out.alloc (.cells #[.int .i64 y] 3)) (wr.heap.size + 1) _ 1 1 _ rfl (reads_one wr _ _) (one_one rfl) hb1 hb2 (show w.heap.size ≤ (wr.alloc (.cells #[.int .i64 y] 3)).heap.size from Nat.le_trans HB.out.size (by simp)) ?_; intro A3 c3 w4 ho4 hgq _hsq; have hB4 : Below w.heap.size w w4 := below_app (HB.out.alloc HB.out.size (.cells #[.int .i64 y] 3)) hgq (HO.out.alloc (.cells #[.int .i64 y] 3)) (show w.heap.size ≤ (wr.alloc (.cells #[.int .i64 y] 3)).heap.size from Nat.le_trans HB.out.size (by simp)); replace ho4 := Lib.hid ho4; replace hB4 := Lib.hid hB4; clear hgq _hsq)
          go_roundw
          case rel => exact ⟨i + 1, c3, m + 1, A3, true, out ++ [y], rfl, rfl, by go_num, by omega, by omega, hB4, (by rw [Hid, List.length_append, HL.out]; rfl), (by rw [List.map_append]; exact ho4), (fun h => by cases h), fun _ => hGG.out⟩
          case measure => simp [intOf]; omega
    · have hge : (n : Int) ≤ i := by omega
      have hin2 : i = n := by omega
      cases d
      · obtain ⟨hout, hall⟩ := HF.out rfl
        have htk : Hid (l.take i = l) := by rw [hin2]; exact List.take_of_length_le (by rw [L.out]; exact Nat.le_refl _)
        rw [htk.out] at hout hall
        have GG : Hid (out ++ [x] = G) := by rw [hout]; exact (INE.out hall).symm
        have hb1 : m + 1 ≤ maxLen := by unfold maxLen; omega
        have hb2 : (m + 1) * 8 ≤ 140737488355328 := by omega
        have HLG : Hid (G.length = m + 1) := by rw [Hid, ← GG.out, List.length_append, HL.out]; rfl
        replace hin2 := Lib.hid hin2
        replace hout := Lib.hid hout
        go_wp2_with (at_builtin; refine wpList_append_any _ rfl (.tmp 43) (.tmp 45) 25 rfl w.heap.size 3 i0 (.int .i64 0) 1 8 Try.underlying25 hi.out hz0.out hz1.out hz2.out rfl (by omega) A1 m c' _ rfl (HO.out.alloc (.cells #[.int .i64 x] 3)) (wr.heap.size + 1) _ 1 1 _ rfl (reads_one wr _ _) (one_one rfl) hb1 hb2 (show w.heap.size ≤ (wr.alloc (.cells #[.int .i64 x] 3)).heap.size from Nat.le_trans HB.out.size (by simp)) ?_; intro A3 c3 w4 ho4 hgq _hsq; have hB4 : Below w.heap.size w w4 := below_app (HB.out.alloc HB.out.size (.cells #[.int .i64 x] 3)) hgq (HO.out.alloc (.cells #[.int .i64 x] 3)) (show w.heap.size ≤ (wr.alloc (.cells #[.int .i64 x] 3)).heap.size from Nat.le_trans HB.out.size (by simp)); replace ho4 := Lib.hid ho4; replace hB4 := Lib.hid hB4; clear hgq _hsq)
        go_ret
        exact ⟨A3, c3, (show Ending.returned (.slice A3 (m + 1) c3) = _ by rw [HLG.out]), (by rw [HLG.out, ← GG.out, List.map_append]; exact ho4.out), hB4.out⟩
      · have GG : Hid (out = G) := by
          have := HT.out rfl
          rwa [hin2, List.drop_of_length_le (by rw [L.out]; exact Nat.le_refl _), List.append_nil] at this
        have HLG : Hid (G.length = m) := by rw [← GG.out]; exact HL.out
        replace hin2 := Lib.hid hin2
        go_wp2_with fail
        go_ret
        exact ⟨A1, c', (show Ending.returned (.slice A1 m c') = _ by rw [HLG.out]), (by rw [HLG.out, ← GG.out]; exact HO.out), HB.out⟩
end Go.Proofs.Ytpgnaahfkcgflaa
