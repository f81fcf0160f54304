/-
  Rows that are picked by the document: walked.
-/
import Derived.Test.YtjbedcgacnnanaaDoorBn
namespace Go.Proofs.YtjbedcgacnnanaaDoor
set_option linter.unusedSimpArgs false
set_option linter.unusedVariables false
open Go.RowKit

theorem below_drewN {B : Nat} {a w : World} (h : Below B a w) (n : Nat) : Below B a (w.drewN n) := ⟨h.os, h.tape, h.output, h.size, h.block⟩
theorem rowC_get (bs : List UInt8) (R C i t : Nat) (hbl : bs.length = R * C) (hi : i < R) (ht : t < C) : ∃ b, bs[i * C + t]? = some b ∧ (rowC bs C i).take (t + 1) = (rowC bs C i).take t ++ [b] := by
  have hle : (i + 1) * C ≤ R * C := Nat.mul_le_mul_right _ hi
  rw [Nat.succ_mul] at hle
  have hlt : i * C + t < bs.length := by omega
  have hl : t < (rowC bs C i).length := by rw [rowC_len bs R C i hbl hi]; exact ht
  refine ⟨bs[i * C + t], List.getElem?_eq_getElem hlt, ?_⟩
  rw [List.take_succ_eq_append_getElem hl]
  congr 2
  simp [rowC]

set_option maxRecDepth 100000 in
theorem refPick_bad (r c : Int) (A A' : Option Addr) (n k n' k' : Nat) (w : World) (h : ¬ (Matp.may r c n = true ∧ n' ≤ 255)) :
    Calls Tryd.prog 52 #[.agg #[.int .i64 r, .int .i64 c, .slice A n k], .slice A' n' k'] w (MRet w 0 0 [] 13) := by
  have M := fun W => Lib.hid (refMay_any r c A n k W)
  unfold mC at M
  have hz := (zero_of_info info_m).1
  have hn : Matp.may r c n = false ∨ (Matp.may r c n = true ∧ (255 : Int) < n') := by
    by_cases hm : Matp.may r c n = true
    · right
      refine ⟨hm, ?_⟩
      rcases Nat.lt_or_ge 255 n' with h1 | h1
      · omega
      · exact absurd ⟨hm, h1⟩ h
    · left; simpa using hm
  clear h
  rcases hn with hm | ⟨hm, hn⟩
  all_goals
    rw [hm] at M
    clear hm
    go_enter Tryd.func52, Tryd.ntmps52
    go_wp2_with fail
    refine (M _).out.mono ?_; rintro e w1 ⟨rfl, hB1⟩
    have hb4 : Blk w1 (w.heap.size + 1) 75 (mC 0 0 (.slice none 0 0)) := by
      refine Blk.below ?_ hB1 (by simp)
      have h := Blk.new (w.alloc (.cells #[.int .i64 r, .int .i64 c, .slice A n k] 75)) 75 (mC 0 0 (.slice none 0 0))
      simpa [mC] using h
    have HB1 := Lib.hid (((Below.refl w.heap.size w).alloc (Nat.le_refl _) (.cells #[.int .i64 r, .int .i64 c, .slice A n k] 75)).alloc (by simp) (.cells #[.int .i64 0, .int .i64 0, .slice none 0 0] 75) |>.trans (hB1.mono (by simp; omega)))
    replace hb4 := Lib.hid hb4
    clear hB1
    go_wp2_with (refine wpList_store_row rfl 75 _ _ rfl (w.heap.size + 1) (mC 0 0 (.slice none 0 0)) rfl rfl 75 (mC 0 0 (.slice none 0 0)) hb4.out info_ms rfl (mC_one _ _ _ _ _) ?_)
    exact bodyPost_ret (results_cell_int rfl _ _ (w.heap.size + 1) (mC 0 0 (.slice none 0 0)) (.int .i64 13) rfl rfl (run_loadVar_row _ (w.heap.size + 1) 75 _ (mC 0 0 (.slice none 0 0)) (0, 0) _ (hb4.out.row _) Tryd.underlying75 rfl info_ms)) rfl ⟨none, 0, rfl, World.ownsRow_nil _ _ _ 1, below_row HB1.out (Nat.le_succ _) _⟩

set_option maxRecDepth 100000 in
set_option maxHeartbeats 8000000 in
theorem refPick_in (R C : Nat) (A A' : Option Addr) (n k n' k' : Nat) (bs : List UInt8) (xs : List Int) (w : World) (hR : R ≤ 255) (hC : C ≤ 255) (hn : n = R * C) (hnk : n ≤ k) (h255 : n' ≤ 255)
    (h : Reads w w.heap.size 1 A n (bs.map B8)) (h' : Reads w w.heap.size 1 A' n' (xs.map I64)) (P0 : Ending → World → Prop)
    (hS : ∀ out, pickGo bs R C xs [] = some out → ∀ e w', MRet w n' C out 0 e w' → P0 e w') (hN : pickGo bs R C xs [] = none → ∀ e w', MRet w 0 0 [] 13 e w' → P0 e w') :
    Calls Tryd.prog 52 #[.agg #[.int .i64 R, .int .i64 C, .slice A n k], .slice A' n' k'] w P0 := by
  have M := fun W => Lib.hid (refMay_any R C A n k W)
  unfold mC at M
  have hm : Matp.may (R : Int) (C : Int) n = true := by
    unfold Matp.may; rw [hn, Int.natCast_mul]; simp; omega
  rw [hm] at M
  have hl : xs.length = n' := by have := h'.1; simpa using this
  have hbl : bs.length = R * C := by have := h.len; omega
  have hz := (zero_of_info info_m).1
  obtain ⟨i0, hi, hz0, hz1, hz2⟩ := info_parts info_u8
  replace hi := Lib.hid hi; replace hz0 := Lib.hid hz0; replace hz1 := Lib.hid hz1; replace hz2 := Lib.hid hz2
  replace hS := Lib.hid hS; replace hN := Lib.hid hN
  have RG := Lib.hid (fun (i t : Nat) (hi : i < R) (ht : t < C) => rowC_get bs R C i t hbl hi ht)
  have RL := Lib.hid (fun (i : Nat) (hi : i < R) => rowC_len bs R C i hbl hi)
  have NB := Lib.hid (fun (i t : Nat) (hi : i < R) (ht : t < C) => show i * C + t < n by
    have hle : (i + 1) * C ≤ R * C := Nat.mul_le_mul_right _ hi
    rw [Nat.succ_mul] at hle
    omega)
  have hn65 : n ≤ 65025 := by rw [hn]; exact rc_le hR hC
  have L := Lib.hid hl
  have H := Lib.hid h
  have H' := Lib.hid h'
  clear hm h h' hn hnk hl hbl
  go_enter Tryd.func52, Tryd.ntmps52
  go_wp2_with fail
  refine (M _).out.mono ?_; rintro e w1 ⟨rfl, hB1⟩
  have hb2 : Blk w1 w.heap.size 75 (mC R C (.slice A n k)) := Blk.below ((Blk.new w _ _).alloc _) hB1 (by simp; omega)
  have hb4 : Blk w1 (w.heap.size + 1) 75 (mC 0 0 (.slice none 0 0)) := by
    refine Blk.below ?_ hB1 (by simp)
    have h := Blk.new (w.alloc (.cells #[.int .i64 R, .int .i64 C, .slice A n k] 75)) 75 (mC 0 0 (.slice none 0 0))
    simpa [mC] using h
  have HB1 := ((Below.refl w.heap.size w).alloc (Nat.le_refl _) (.cells #[.int .i64 R, .int .i64 C, .slice A n k] 75)).alloc (by simp) (.cells #[.int .i64 0, .int .i64 0, .slice none 0 0] 75) |>.trans (hB1.mono (by simp; omega))
  have y1 : w1.cell? ⟨w.heap.size, 1, none⟩ = some (.int .i64 C) := hb2.cell 1
  have hgw1 : w.heap.size + 1 < w1.heap.size := hb4.lt
  replace HB1 := Lib.hid HB1; replace hb2 := Lib.hid hb2; replace hb4 := Lib.hid hb4
  clear hB1
  go_wp2_with fail
  have hB3 := below_alloc HB1.out (.cells #[.int .i64 n', .int .i64 C, .slice none 0 0] 75)
  have hb23 := hb2.out.alloc (.cells #[.int .i64 n', .int .i64 C, .slice none 0 0] 75)
  have hb43 := hb4.out.alloc (.cells #[.int .i64 n', .int .i64 C, .slice none 0 0] 75)
  have hb63 : Blk (w1.alloc (.cells #[.int .i64 n', .int .i64 C, .slice none 0 0] 75)) w1.heap.size 75 (mC n' C (.slice none 0 0)) := Blk.new _ _ _
  generalize w1.alloc (.cells #[.int .i64 n', .int .i64 C, .slice none 0 0] 75) = w3 at *
  generalize w1.heap.size = g6 at *
  replace hB3 := Lib.hid hB3; replace hb23 := Lib.hid hb23; replace hb43 := Lib.hid hb43; replace hb63 := Lib.hid hb63
  clear HB1 hb2 hb4 y1 hz M
  go_loopw [7] (fun v7 wr => ∃ (j c' : Nat) (A1 : Option Addr) (out : List UInt8), v7 = .int .i64 j ∧ j ≤ n' ∧ Hid (Below w.heap.size w wr) ∧ Hid (Blk wr w.heap.size 75 (mC R C (.slice A n k))) ∧ Hid (Blk wr (w.heap.size + 1) 75 (mC 0 0 (.slice none 0 0))) ∧ Hid (Blk wr g6 75 (mC n' C (.slice A1 (j * C) c'))) ∧ Hid (wr.ownsRow w.heap.size 5 1 (.slice A1 (j * C) c') (j * C) (out.map B8)) ∧ Hid (pickGo bs R C (xs.drop j) out = pickGo bs R C xs [])) (fun v7 _ => n' - (intOf v7).toNat)
  case atStart => exact ⟨0, 0, none, [], rfl, by omega, hB3, hb23, hb43, by rw [Nat.zero_mul]; exact hb63, by rw [Nat.zero_mul]; exact World.ownsRow_nil _ _ _ 1, rfl⟩
  case round =>
    obtain ⟨j, c', A1, out, rfl, hjn, HB, Hb2, Hb4, Hb6, HO, HP⟩ := hrel
    by_cases hlt : j < n'
    · have hlt' : (j : Int) < n' := by omega
      have hgw : w.heap.size + 1 < wr.heap.size := Hb4.out.lt
      obtain ⟨ad, rfl, hcell⟩ := ints_cells (H'.out.below HB.out) (by omega)
      have adb : ad.block < w.heap.size := by
        obtain ⟨ad', e, hb, _⟩ := H'.out.2 (by omega)
        injection e with e; rw [e]; exact hb
      have hjx : j < xs.length := by rw [L.out]; exact hlt
      have e1 := hcell j hjx
      have HP2 := Lib.hid (pickGo_step bs R C xs j hjx out)
      have E1 : Hid (∀ W, Below w.heap.size wr W → W.cell? (ad.add j) = some (.int .i64 xs[j])) := fun W hW => (hW.cell (p := ad.add j) (by rw [block_of_add]; exact adb)).trans e1
      have y0 : wr.cell? ⟨w.heap.size, 0, none⟩ = some (.int .i64 R) := Hb2.out.cell 0
      have y1 : wr.cell? ⟨w.heap.size, 1, none⟩ = some (.int .i64 C) := Hb2.out.cell 1
      have y2 : wr.cell? ⟨w.heap.size, 2, none⟩ = some (.slice A n k) := Hb2.out.cell 2
      clear hcell adb
      generalize xs[j] = x at *
      by_cases hx : 0 ≤ x ∧ x < (R : Int)
      · skip
        rw [if_pos hx] at HP2
        obtain ⟨i, rfl⟩ : ∃ i : Nat, x = (i : Int) := ⟨x.toNat, by omega⟩
        obtain ⟨hx0, hxR⟩ := hx
        have hiR : i < R := by omega
        rw [Int.toNat_natCast] at HP2
        have hm : (j + 1) * C ≤ 65025 := rc_le (by omega) hC
        rw [Nat.succ_mul] at hm
        have Hm1 : Hid ((j + 1) * C = j * C + C) := Nat.succ_mul _ _
        generalize j * C = m at *
        have RgI := Lib.hid (fun t ht => RG.out i t hiR ht)
        have RlI := Lib.hid (RL.out i hiR)
        have NbI := Lib.hid (fun t ht => NB.out i t hiR ht)
        have hmul : (i : Int) * (C : Int) = ((i * C : Nat) : Int) := (Int.natCast_mul i C).symm
        have hdx : decide ((i : Int) < 0) = false := by rw [decide_eq_false_iff_not]; omega
        have hdR : decide ((R : Int) ≤ (i : Int)) = false := by rw [decide_eq_false_iff_not]; omega
        have hdR2 : decide (R ≤ i) = false := by rw [decide_eq_false_iff_not]; omega
        go_wp2_with fail
        go_quiet (fail)
        have hBd : Hid (Below w.heap.size wr (wr.drewN nq)) := below_drewN (Below.refl _ _) _
        have Hb2d : Hid (Blk (wr.drewN nq) w.heap.size 75 (mC R C (.slice A n k))) := Hb2.out
        have Hb4d : Hid (Blk (wr.drewN nq) (w.heap.size + 1) 75 (mC 0 0 (.slice none 0 0))) := Hb4.out
        have Hb6d : Hid (Blk (wr.drewN nq) g6 75 (mC n' C (.slice A1 m c'))) := Hb6.out
        have HOd : Hid ((wr.drewN nq).ownsRow w.heap.size 5 1 (.slice A1 m c') m (out.map B8)) := HO.out
        have HBd : Hid (Below w.heap.size w (wr.drewN nq)) := below_drewN HB.out _
        replace E1 := Lib.hid (fun W (hW : Below w.heap.size (wr.drewN nq) W) => E1.out W (hBd.out.trans hW))
        clear Hb2 Hb4 Hb6 HO HB y0 y1 y2 e1 hBd hgw
        generalize wr.drewN nq = wd at *
        go_wp2_with fail
        go_loopw [8] (fun v8 wr => ∃ (t c' : Nat) (A1 : Option Addr), v8 = .int .i64 t ∧ t ≤ C ∧ Hid (Below w.heap.size w wr) ∧ Hid (Below w.heap.size wd wr) ∧ Hid (Blk wr w.heap.size 75 (mC R C (.slice A n k))) ∧ Hid (Blk wr (w.heap.size + 1) 75 (mC 0 0 (.slice none 0 0))) ∧ Hid (Blk wr g6 75 (mC n' C (.slice A1 (m + t) c'))) ∧ Hid (wr.ownsRow w.heap.size 5 1 (.slice A1 (m + t) c') (m + t) ((out ++ (rowC bs C i).take t).map B8))) (fun v8 _ => C - (intOf v8).toNat)
        case atStart => exact ⟨0, c', A1, rfl, by omega, HBd, Below.refl _ _, Hb2d, Hb4d, Hb6d, by rw [List.take_zero, List.append_nil]; exact HOd⟩
        case round =>
          clear Hb2d Hb4d Hb6d HOd HBd
          clear c' A1
          obtain ⟨t, c', A1, rfl, htC, HB, HBq, Hb2, Hb4, Hb6, HO⟩ := hrel
          have hgw : w.heap.size + 1 < wr.heap.size := Hb4.out.lt
          have y0 : wr.cell? ⟨w.heap.size, 0, none⟩ = some (.int .i64 R) := Hb2.out.cell 0
          have y1 : wr.cell? ⟨w.heap.size, 1, none⟩ = some (.int .i64 C) := Hb2.out.cell 1
          have y2 : wr.cell? ⟨w.heap.size, 2, none⟩ = some (.slice A n k) := Hb2.out.cell 2
          by_cases htl : t < C
          · have htl' : (t : Int) < C := by omega
            obtain ⟨b, Hbq, Hrow⟩ := RgI.out t htl
            have hnb : i * C + t < n := NbI.out t htl
            obtain ⟨ad2, b', hA2, hblk2, hb', ec⟩ := (H.out.below HB.out).byte (k := i * C + t) hnb
            have hbb : b' = b := by rw [Hbq] at hb'; injection hb' with hb'; exact hb'.symm
            subst hbb
            subst hA2
            have hx8 := b'.toNat_lt
            have HX : Hid (B8 b' = .int .u8 (((b'.toNat : Nat)) : Int)) := rfl
            replace Hrow := Lib.hid Hrow
            clear Hbq hb' hblk2
            have e1 := E1.out wr HBq.out
            have hm65 : m + t < 65025 := by omega
            obtain ⟨M1, hM1⟩ : ∃ M1, M1 = m + t := ⟨_, rfl⟩
            rw [← hM1] at Hb6 HO hm65
            have HM1 := Lib.hid hM1
            have HX2 : Hid (((out ++ (rowC bs C i).take (t + 1)).map B8) = (out ++ (rowC bs C i).take t).map B8 ++ [B8 b']) := by
              rw [Hid, Hrow.out]; simp
            clear hM1 Hrow
            obtain ⟨q, hq⟩ : ∃ q, q = i * C := ⟨_, rfl⟩
            rw [← hq] at hnb ec hmul
            clear hq
            generalize (out ++ (rowC bs C i).take t).map B8 = cs0 at *
            generalize B8 b' = vb at *
            generalize b'.toNat = bn at *
            clear b'
            have hsumi : (q : Int) + (t : Int) = ((q + t : Nat) : Int) := by omega
            have hwr1 : IntKind.i64.wrap ((q + t : Nat) : Int) = ((q + t : Nat) : Int) := by rw [IntKind.wrap_i64]; omega
            have hwr0 : IntKind.i64.wrap (q : Int) = (q : Int) := by rw [IntKind.wrap_i64]; omega
            generalize q + t = s at *
            have hs0 : (0 : Int) ≤ (s : Int) := by omega
            have hs1 : (s : Int) < (n : Int) := by omega
            have z2 : wr.cell? ⟨g6, 2, none⟩ = some (.slice A1 M1 c') := Hb6.out.cell 2
            have hb1 : M1 + 1 ≤ maxLen := by unfold maxLen; omega
            have hb2 : (M1 + 1) * 1 ≤ 140737488355328 := by omega
            go_wp2_with fail
            have hg6 : w.heap.size + 1 < g6 := hgw1
            have z2d : wr.drew.cell? ⟨g6, 2, none⟩ = some (.slice A1 M1 c') := z2
            have z2a : ∀ o, (wr.alloc o).cell? ⟨g6, 2, none⟩ = some (.slice A1 M1 c') := fun o => (Hb6.out.alloc o).cell 2
            have hgd : w.heap.size ≤ wr.heap.size := by omega
            go_region_law
              (refine step_append_any _ (by rfl) _ _ _ (by rfl) w.heap.size 5 i0 (.int .u8 0) 1 1 Tryd.underlying27 hi.out hz0.out hz1.out hz2.out rfl (by omega) A1 M1 c' _ (by rfl) ((HO.out.alloc (.cells #[.int .u8 (bn : Int)] 5)).drew) (wr.heap.size + 1) _ 1 1 _ (by rfl) (reads_one wr _ _) (one_one rfl) hb1 hb2 (show w.heap.size ≤ (wr.alloc (.cells #[.int .u8 (bn : Int)] 5)).heap.size from Nat.le_trans hgd (by simp)) ?_
               intro A3 c3 w4 ho4 hg4 _hs4
               have ho5 := (HO.out.alloc (.cells #[.int .u8 (bn : Int)] 5)).drew
               have hb4 : Blk w4 g6 75 (mC n' C (.slice A1 M1 c')) := blk_grown (Hb6.out.alloc _).drew ho5 hg4
               have hbr : Blk w4 (w.heap.size + 1) 75 (mC 0 0 (.slice none 0 0)) := blk_grown (Hb4.out.alloc _).drew ho5 hg4
               have hbm : Blk w4 w.heap.size 75 (mC R C (.slice (some ad2) n k)) := blk_grown (Hb2.out.alloc _).drew ho5 hg4
               have hB4 : Below w.heap.size w w4 := below_app ((HB.out.alloc hgd (.cells #[.int .u8 (bn : Int)] 5)).drew) hg4 ho5 (show w.heap.size ≤ (wr.alloc (.cells #[.int .u8 (bn : Int)] 5)).heap.size from Nat.le_trans hgd (by simp))
               have hBq4 : Below w.heap.size wd w4 := below_app ((HBq.out.alloc hgd (.cells #[.int .u8 (bn : Int)] 5)).drew) hg4 ho5 (show w.heap.size ≤ (wr.alloc (.cells #[.int .u8 (bn : Int)] 5)).heap.size from Nat.le_trans hgd (by simp))
               have z24 : w4.cell? ⟨g6, 2, none⟩ = some (.slice A1 M1 c') := hb4.cell 2
               have zf4 : w4.frozen? ⟨g6, 2, none⟩ = false := hb4.frozen 2
               replace ho4 := Lib.hid ho4; replace hb4 := Lib.hid hb4; replace hbr := Lib.hid hbr; replace hbm := Lib.hid hbm; replace hB4 := Lib.hid hB4; replace hBq4 := Lib.hid hBq4; clear hg4 _hs4 ho5)
            all_goals
              go_wp2_with fail
              go_roundw
              case rel =>
                refine ⟨t + 1, c3, A3, by go_num, by omega, hB4.out.setCell (p := ⟨g6, 2, none⟩) (Nat.le_of_lt (Nat.lt_trans (Nat.lt_succ_self _) hg6)) _, hBq4.out.setCell (p := ⟨g6, 2, none⟩) (Nat.le_of_lt (Nat.lt_trans (Nat.lt_succ_self _) hg6)) _, hbm.out.far (p := ⟨g6, 2, none⟩) (Nat.ne_of_lt (Nat.lt_trans (Nat.lt_succ_self _) hg6)) _, hbr.out.far (p := ⟨g6, 2, none⟩) (Nat.ne_of_lt hg6) _, ?_, ?_⟩
                · rw [show m + (t + 1) = M1 + 1 by rw [HM1.out]; omega]
                  exact hb4.out.set_ 2 (.slice A3 (M1 + 1) c3)
                · rw [show m + (t + 1) = M1 + 1 by rw [HM1.out]; omega, HX2.out, HX.out]
                  exact own_setM (j := 2) ho4.out hb4.out (.slice A3 (M1 + 1) c3)
              case measure => simp [intOf]; omega
          · have htC2 : t = C := by omega
            subst htC2
            have HR : Hid ((rowC bs t i).take t = rowC bs t i) := List.take_of_length_le (by rw [RlI.out]; exact Nat.le_refl _)
            rw [HR.out] at HO
            go_wp2_with fail
            go_roundw
            case rel => exact ⟨j + 1, c', A1, out ++ rowC bs t i, by go_num, by omega, HB, Hb2, Hb4, by rw [Hm1.out]; exact Hb6, by rw [Hm1.out]; exact HO, HP2.out.symm.trans HP.out⟩
            case measure => simp [intOf]; omega
      · rw [if_neg hx] at HP2
        have HN : Hid (pickGo bs R C xs [] = none) := HP.out.symm.trans HP2.out
        have hx' : x < 0 ∨ (0 ≤ x ∧ (R : Int) ≤ x) := by omega
        clear hx
        rcases hx' with hx | ⟨hx, hx2⟩
        all_goals
          go_wp2_with fail
          go_quiet (fail)
          have Hb4d : Hid (Blk (wr.drewN nq) (w.heap.size + 1) 75 (mC 0 0 (.slice none 0 0))) := Hb4.out
          have HBd : Hid (Below w.heap.size w (wr.drewN nq)) := below_drewN HB.out _
          go_wp2_with (refine wpList_store_row rfl 75 _ _ rfl (w.heap.size + 1) (mC 0 0 (.slice none 0 0)) rfl rfl 75 (mC 0 0 (.slice none 0 0)) Hb4d.out info_ms rfl (mC_one _ _ _ _ _) ?_)
          exact bodyPost_ret (results_cell_int rfl _ _ (w.heap.size + 1) (mC 0 0 (.slice none 0 0)) (.int .i64 13) rfl rfl (run_loadVar_row _ (w.heap.size + 1) 75 _ (mC 0 0 (.slice none 0 0)) (0, 0) _ (Hb4d.out.row _) Tryd.underlying75 rfl info_ms)) rfl (hN.out HN.out _ _ ⟨none, 0, rfl, World.ownsRow_nil _ _ _ 1, below_row HBd.out (Nat.le_succ _) _⟩)
    · have hjn2 : j = n' := by omega
      have HS : Hid (pickGo bs R C xs [] = some out) := by
        rw [← HP.out, List.drop_of_length_le (by rw [L.out]; omega)]; rfl
      have hge : (n' : Int) ≤ j := by omega
      have hol : Hid (out.length = j * C) := by have h := HO.out.1; unfold Hid; simpa using h
      rw [← hol.out] at HO Hb6
      go_wp2_with (first
        | (refine wpList_load_row rfl 75 _ rfl g6 rfl 75 (mC n' C (.slice A1 out.length c')) (0, 0) _ Hb6.out Tryd.underlying75 rfl info_ms ?_)
        | (refine wpList_store_row rfl 75 _ _ rfl (w.heap.size + 1) (mC n' C (.slice A1 out.length c')) rfl rfl 75 (mC 0 0 (.slice none 0 0)) Hb4.out info_ms rfl (mC_one _ _ _ _ _) ?_))
      exact bodyPost_ret (results_cell_int rfl _ _ (w.heap.size + 1) (mC n' C (.slice A1 out.length c')) (.int .i64 0) rfl rfl (run_loadVar_row _ (w.heap.size + 1) 75 _ (mC n' C (.slice A1 out.length c')) (0, 0) _ (Hb4.out.row _) Tryd.underlying75 rfl info_ms)) rfl (hS.out out HS.out _ _ ⟨A1, c', rfl, own_setRowM HO.out Hb4.out _, below_row HB.out (Nat.le_succ _) _⟩)
end Go.Proofs.YtjbedcgacnnanaaDoor
