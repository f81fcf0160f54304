/-
  Texts put together: Matz Matl Matm Matk Matc.
-/
import Derived.Test.YtjbedcgacnnanaaDoorBm
import Derived.Test.YtjbedcgacnnanaaDoorBa
import Derived.Laws.CopyOwn
namespace Go.Proofs.YtjbedcgacnnanaaDoor
set_option linter.unusedSimpArgs false
set_option linter.unusedVariables false
open Go.RowKit

theorem cellsTo_one (cols : Nat) (cell : Nat → Nat → UInt8) (i : Nat) : cellsTo cols cell (i + 1) = cellsTo cols cell i ++ [cell (i / cols) (i % cols)] := by
  unfold cellsTo; rw [List.range_succ, List.map_append]; rfl

set_option maxRecDepth 100000 in
set_option maxHeartbeats 2000000 in
theorem refIdentity_in (n : Nat) (w : World) (hn : n ≤ 255) : Calls Tryd.prog 50 #[.int .i64 n] w (MRet w n n (cellsTo n oneC (n * n)) 0) := by
  obtain ⟨i0, hi, hz0, hz1, hz2⟩ := info_parts info_u8
  replace hi := Lib.hid hi; replace hz0 := Lib.hid hz0; replace hz1 := Lib.hid hz1; replace hz2 := Lib.hid hz2
  have hz := (zero_of_info info_m).1
  have hnn := rc_le hn hn
  have hl := cellsTo_len n oneC (n * n)
  unfold MRet
  rw [hl]
  clear hl
  have hmul : (n : Int) * (n : Int) = ((n * n : Nat) : Int) := (Int.natCast_mul n n).symm
  have Hn0 : Hid (∀ i, i < n * n → n ≠ 0) := fun i hi h => by rw [h] at hi; omega
  obtain ⟨nn, hnne⟩ : ∃ nn, nn = n * n := ⟨_, rfl⟩
  rw [← hnne] at hnn hmul Hn0 ⊢
  clear hnne
  go_enter Tryd.func50, Tryd.ntmps50
  go_wp2_with fail
  have hB3 : Below w.heap.size w ((w.alloc (.cells #[.int .i64 0, .int .i64 0, .slice none 0 0] 75)).alloc (.cells #[.int .i64 n, .int .i64 n, .slice none 0 0] 75)) := ((Below.refl _ _).alloc (Nat.le_refl _) _).alloc (by simp) _
  have hb3 : Blk ((w.alloc (.cells #[.int .i64 0, .int .i64 0, .slice none 0 0] 75)).alloc (.cells #[.int .i64 n, .int .i64 n, .slice none 0 0] 75)) w.heap.size 75 (mC 0 0 (.slice none 0 0)) := (Blk.new w _ _).alloc _
  have hb7 : Blk ((w.alloc (.cells #[.int .i64 0, .int .i64 0, .slice none 0 0] 75)).alloc (.cells #[.int .i64 n, .int .i64 n, .slice none 0 0] 75)) (w.heap.size + 1) 75 (mC n n (.slice none 0 0)) := by
    have h := Blk.new (w.alloc (.cells #[.int .i64 0, .int .i64 0, .slice none 0 0] 75)) 75 (mC n n (.slice none 0 0))
    simpa [mC] using h
  generalize (w.alloc (.cells #[.int .i64 0, .int .i64 0, .slice none 0 0] 75)).alloc (.cells #[.int .i64 n, .int .i64 n, .slice none 0 0] 75) = w3 at *
  replace hB3 := Lib.hid hB3; replace hb3 := Lib.hid hb3; replace hb7 := Lib.hid hb7
  go_loopw [5] (fun v5 wr => ∃ (i c' : Nat) (A' : Option Addr), v5 = .int .i64 i ∧ i ≤ nn ∧ Hid (Below w.heap.size w wr) ∧ Hid (Blk wr w.heap.size 75 (mC 0 0 (.slice none 0 0))) ∧ Hid (Blk wr (w.heap.size + 1) 75 (mC n n (.slice A' i c'))) ∧ Hid (wr.ownsRow w.heap.size 5 1 (.slice A' i c') i ((cellsTo n oneC i).map B8))) (fun v5 _ => nn - (intOf v5).toNat)
  case atStart => exact ⟨0, 0, none, rfl, by omega, hB3, hb3, hb7, World.ownsRow_nil _ _ _ 1⟩
  case round =>
    obtain ⟨i, c', A', rfl, hin, HB, Hb6, Hb7, HO⟩ := hrel
    by_cases hlt : i < nn
    · have hlt' : (i : Int) < nn := by omega
      have hn0 := Hn0.out i hlt
      have hne : ((n : Int) == 0) = false := by rw [beq_eq_false_iff_ne]; omega
      have hne2 : (n : Int) ≠ 0 := by omega
      have hq : (i : Int) / (n : Int) = ((i / n : Nat) : Int) := (Int.natCast_ediv i n).symm
      have hr : (i : Int) % (n : Int) = ((i % n : Nat) : Int) := (Int.natCast_emod i n).symm
      have Hstep := Lib.hid (cellsTo_one n oneC i)
      have Hc : Hid (oneC (i / n) (i % n) = if i / n = i % n then 1 else 0) := rfl
      have q2 : wr.cell? ⟨w.heap.size + 1, 2, none⟩ = some (.slice A' i c') := Hb7.out.cell 2
      have hgw : w.heap.size ≤ wr.heap.size := HB.out.size
      have hqb : i / n < 65025 := Nat.lt_of_le_of_lt (Nat.div_le_self _ _) (by omega)
      have hrb : i % n < 65025 := Nat.lt_of_le_of_lt (Nat.mod_le _ _) (by omega)
      generalize i / n = qq at *
      generalize i % n = rr at *
      by_cases hqr : qq = rr
      · skip
        rw [if_pos hqr] at Hc
        have hqe : ((qq : Int) == (rr : Int)) = true := by rw [beq_iff_eq]; omega
        go_wp2_with fail
        go_quiet (fail)
        have HOd : Hid ((wr.drewN nq).ownsRow w.heap.size 5 1 (.slice A' i c') i ((cellsTo n oneC i).map B8)) := HO.out
        have Hb7d : Hid (Blk (wr.drewN nq) (w.heap.size + 1) 75 (mC n n (.slice A' i c'))) := Hb7.out
        have Hb6d : Hid (Blk (wr.drewN nq) w.heap.size 75 (mC 0 0 (.slice none 0 0))) := Hb6.out
        have HBd : Hid (Below w.heap.size w (wr.drewN nq)) := ⟨HB.out.os, HB.out.tape, HB.out.output, HB.out.size, HB.out.block⟩
        have q2d : (wr.drewN nq).cell? ⟨w.heap.size + 1, 2, none⟩ = some (.slice A' i c') := Hb7d.out.cell 2
        have hgd : w.heap.size ≤ (wr.drewN nq).heap.size := hgw
        clear HO Hb7 Hb6 HB q2 hgw hqe hqr
        generalize wr.drewN nq = wd at *
        go_wp2_with (at_builtin; refine wpList_append_any _ rfl (.tmp 32) (.tmp 34) 27 rfl w.heap.size 5 i0 (.int .u8 0) 1 1 Tryd.underlying27 hi.out hz0.out hz1.out hz2.out rfl (by omega) A' i c' _ rfl (HOd.out.alloc _) (wd.heap.size + 1) (some ⟨wd.heap.size, 0, none⟩) 1 1 [.int .u8 1] rfl (reads_one _ _ _) (one_one rfl) (by unfold maxLen; omega) (by omega) (Nat.le_trans hgd (by simp)) ?_; intro A3 c3 w4 ho4 hg4 _hs4; have HB4 := Lib.hid (below_app (HBd.out.alloc hgd (.cells #[.int .u8 1] 5)) hg4 (HOd.out.alloc _) (Nat.le_trans hgd (by simp))); have hb4 := Lib.hid (blk_grown (Hb7d.out.alloc _) (HOd.out.alloc _) hg4); have hb6 := Lib.hid (blk_grown (Hb6d.out.alloc _) (HOd.out.alloc _) hg4); have z2 : w4.cell? ⟨w.heap.size + 1, 2, none⟩ = some (.slice A' i c') := hb4.out.cell 2; have zf := hb4.out.frozen 2; replace ho4 := Lib.hid ho4; clear hg4 _hs4)
        go_roundw
        case rel =>
          refine ⟨i + 1, c3, A3, by go_num, by omega, HB4.out.setCell (p := ⟨w.heap.size + 1, 2, none⟩) (Nat.le_succ _) _, hb6.out.far (p := ⟨w.heap.size + 1, 2, none⟩) (Nat.ne_of_lt (Nat.lt_succ_self _)) _, hb4.out.set_ 2 (.slice A3 (i + 1) c3), ?_⟩
          rw [Hstep.out, Hc.out, List.map_append]
          exact own_setM (j := 2) ho4.out hb4.out (.slice A3 (i + 1) c3)
        case measure => simp [intOf]; omega
      · skip
        rw [if_neg hqr] at Hc
        have hqe : ((qq : Int) == (rr : Int)) = false := by rw [beq_eq_false_iff_ne]; omega
        go_wp2_with fail
        go_quiet (fail)
        have HOd : Hid ((wr.drewN nq).ownsRow w.heap.size 5 1 (.slice A' i c') i ((cellsTo n oneC i).map B8)) := HO.out
        have Hb7d : Hid (Blk (wr.drewN nq) (w.heap.size + 1) 75 (mC n n (.slice A' i c'))) := Hb7.out
        have Hb6d : Hid (Blk (wr.drewN nq) w.heap.size 75 (mC 0 0 (.slice none 0 0))) := Hb6.out
        have HBd : Hid (Below w.heap.size w (wr.drewN nq)) := ⟨HB.out.os, HB.out.tape, HB.out.output, HB.out.size, HB.out.block⟩
        have q2d : (wr.drewN nq).cell? ⟨w.heap.size + 1, 2, none⟩ = some (.slice A' i c') := Hb7d.out.cell 2
        have hgd : w.heap.size ≤ (wr.drewN nq).heap.size := hgw
        clear HO Hb7 Hb6 HB q2 hgw hqe hqr
        generalize wr.drewN nq = wd at *
        go_wp2_with (at_builtin; refine wpList_append_any _ rfl (.tmp 32) (.tmp 34) 27 rfl w.heap.size 5 i0 (.int .u8 0) 1 1 Tryd.underlying27 hi.out hz0.out hz1.out hz2.out rfl (by omega) A' i c' _ rfl (HOd.out.alloc _) (wd.heap.size + 1) (some ⟨wd.heap.size, 0, none⟩) 1 1 [.int .u8 0] rfl (reads_one _ _ _) (one_one rfl) (by unfold maxLen; omega) (by omega) (Nat.le_trans hgd (by simp)) ?_; intro A3 c3 w4 ho4 hg4 _hs4; have HB4 := Lib.hid (below_app (HBd.out.alloc hgd (.cells #[.int .u8 0] 5)) hg4 (HOd.out.alloc _) (Nat.le_trans hgd (by simp))); have hb4 := Lib.hid (blk_grown (Hb7d.out.alloc _) (HOd.out.alloc _) hg4); have hb6 := Lib.hid (blk_grown (Hb6d.out.alloc _) (HOd.out.alloc _) hg4); have z2 : w4.cell? ⟨w.heap.size + 1, 2, none⟩ = some (.slice A' i c') := hb4.out.cell 2; have zf := hb4.out.frozen 2; replace ho4 := Lib.hid ho4; clear hg4 _hs4)
        go_roundw
        case rel =>
          refine ⟨i + 1, c3, A3, by go_num, by omega, HB4.out.setCell (p := ⟨w.heap.size + 1, 2, none⟩) (Nat.le_succ _) _, hb6.out.far (p := ⟨w.heap.size + 1, 2, none⟩) (Nat.ne_of_lt (Nat.lt_succ_self _)) _, hb4.out.set_ 2 (.slice A3 (i + 1) c3), ?_⟩
          rw [Hstep.out, Hc.out, List.map_append]
          exact own_setM (j := 2) ho4.out hb4.out (.slice A3 (i + 1) c3)
        case measure => simp [intOf]; omega
    · have hir2 : i = nn := by omega
      subst hir2
      go_wp2_with (first
        | (refine wpList_load_row rfl 75 _ rfl (w.heap.size + 1) rfl 75 (mC n n (.slice A' i c')) (0, 0) _ Hb7.out Tryd.underlying75 rfl info_ms ?_)
        | (refine wpList_store_row rfl 75 _ _ rfl w.heap.size (mC n n (.slice A' i c')) rfl rfl 75 (mC 0 0 (.slice none 0 0)) Hb6.out info_ms rfl (mC_one _ _ _ _ _) ?_))
      exact bodyPost_ret (results_cell_int rfl _ _ w.heap.size (mC n n (.slice A' i c')) (.int .i64 0) rfl rfl (run_loadVar_row _ w.heap.size 75 _ (mC n n (.slice A' i c')) (0, 0) _ (Hb6.out.row _) Tryd.underlying75 rfl info_ms)) rfl ⟨A', c', rfl, own_setRowM HO.out Hb6.out _, below_row HB.out (Nat.le_refl _) _⟩

set_option maxRecDepth 100000 in
set_option maxHeartbeats 2000000 in
theorem refCauchy_in (k m : Nat) (w : World) (hkm : k + m ≤ 255) : Calls Tryd.prog 44 #[.int .i64 k, .int .i64 m] w (MRet w m k (cellsTo k (cauC k) (m * k)) 0) := by
  obtain ⟨i0, hi, hz0, hz1, hz2⟩ := info_parts info_u8
  replace hi := Lib.hid hi; replace hz0 := Lib.hid hz0; replace hz1 := Lib.hid hz1; replace hz2 := Lib.hid hz2
  have hz := (zero_of_info info_m).1
  have hnn := rc_le (show m ≤ 255 by omega) (show k ≤ 255 by omega)
  have hl := cellsTo_len k (cauC k) (m * k)
  unfold MRet
  rw [hl]
  clear hl
  have hsum : (k : Int) + (m : Int) ≤ 255 := by omega
  go_enter Tryd.func44, Tryd.ntmps44
  go_wp2_with fail
  have hB3 : Below w.heap.size w ((w.alloc (.cells #[.int .i64 0, .int .i64 0, .slice none 0 0] 75)).alloc (.cells #[.int .i64 m, .int .i64 k, .slice none 0 0] 75)) := ((Below.refl _ _).alloc (Nat.le_refl _) _).alloc (by simp) _
  have hb3 : Blk ((w.alloc (.cells #[.int .i64 0, .int .i64 0, .slice none 0 0] 75)).alloc (.cells #[.int .i64 m, .int .i64 k, .slice none 0 0] 75)) w.heap.size 75 (mC 0 0 (.slice none 0 0)) := (Blk.new w _ _).alloc _
  have hb7 : Blk ((w.alloc (.cells #[.int .i64 0, .int .i64 0, .slice none 0 0] 75)).alloc (.cells #[.int .i64 m, .int .i64 k, .slice none 0 0] 75)) (w.heap.size + 1) 75 (mC m k (.slice none 0 0)) := by
    have h := Blk.new (w.alloc (.cells #[.int .i64 0, .int .i64 0, .slice none 0 0] 75)) 75 (mC m k (.slice none 0 0))
    simpa [mC] using h
  generalize (w.alloc (.cells #[.int .i64 0, .int .i64 0, .slice none 0 0] 75)).alloc (.cells #[.int .i64 m, .int .i64 k, .slice none 0 0] 75) = w3 at *
  replace hB3 := Lib.hid hB3; replace hb3 := Lib.hid hb3; replace hb7 := Lib.hid hb7
  go_loopw [7] (fun v7 wr => ∃ (i c' : Nat) (A' : Option Addr), v7 = .int .i64 i ∧ i ≤ m ∧ Hid (Below w.heap.size w wr) ∧ Hid (Blk wr w.heap.size 75 (mC 0 0 (.slice none 0 0))) ∧ Hid (Blk wr (w.heap.size + 1) 75 (mC m k (.slice A' (i * k) c'))) ∧ Hid (wr.ownsRow w.heap.size 5 1 (.slice A' (i * k) c') (i * k) ((cellsTo k (cauC k) (i * k)).map B8))) (fun v7 _ => m - (intOf v7).toNat)
  case atStart => exact ⟨0, 0, none, rfl, by omega, hB3, hb3, (by rw [Nat.zero_mul]; exact hb7), (by rw [Nat.zero_mul]; exact World.ownsRow_nil _ _ _ 1)⟩
  case round =>
    obtain ⟨i, c', A', rfl, hir, HB, Hb6, Hb7, HO⟩ := hrel
    by_cases hlt : i < m
    · have hlt' : (i : Int) < m := by omega
      go_wp2_with fail
      go_loopw [8] (fun v8 wr => ∃ (j c' : Nat) (A' : Option Addr), v8 = .int .i64 j ∧ j ≤ k ∧ Hid (Below w.heap.size w wr) ∧ Hid (Blk wr w.heap.size 75 (mC 0 0 (.slice none 0 0))) ∧ Hid (Blk wr (w.heap.size + 1) 75 (mC m k (.slice A' (i * k + j) c'))) ∧ Hid (wr.ownsRow w.heap.size 5 1 (.slice A' (i * k + j) c') (i * k + j) ((cellsTo k (cauC k) (i * k + j)).map B8))) (fun v8 _ => k - (intOf v8).toNat)
      case atStart => exact ⟨0, c', A', rfl, by omega, HB, Hb6, Hb7, HO⟩
      case round =>
        obtain ⟨j, c', A', rfl, hjc, HB, Hb6, Hb7, HO⟩ := hrel
        by_cases hjl : j < k
        · have hjl' : (j : Int) < k := by omega
          have hm : i * k + j < 65025 := by
            have h1 : (i + 1) * k ≤ m * k := Nat.mul_le_mul_right _ hlt
            rw [Nat.succ_mul] at h1; omega
          have Hstep := Lib.hid (cellsTo_step k (cauC k) i j hjl)
          have hx : (k + i) ^^^ j < 256 := Nat.xor_lt_two_pow (n := 8) (by omega) (by omega)
          have hxo : bits .xor .u8 ((k : Int) + (i : Int)) (j : Int) = (((k + i) ^^^ j : Nat) : Int) := by
            rw [← Int.natCast_add]; exact u8_xor_nat (k + i) j (by omega) (by omega)
          have I := fun W => refInv_any ((k + i) ^^^ j) W hx
          have hv : Hid (((cauC k i j).toNat : Int) = ((Gfp.invV ((k + i) ^^^ j) : Nat) : Int)) := by
            unfold cauC Hid
            rw [fi_toNat, UInt8.toNat_ofNat', show ((k + i) ^^^ j) % 2 ^ 8 = (k + i) ^^^ j from Nat.mod_eq_of_lt hx]
          have hil := Gfp.invV_lt ((k + i) ^^^ j)
          generalize Gfp.e13 ((k + i) ^^^ j) = ee at *
          generalize Gfp.invV ((k + i) ^^^ j) = iv at *
          generalize (k + i) ^^^ j = x at *
          have HX : Hid (B8 (cauC k i j) = .int .u8 (iv : Int)) := by unfold B8; rw [hv.out]; rfl
          replace I := Lib.hid I
          obtain ⟨mm, hme⟩ : ∃ mm, mm = i * k + j := ⟨_, rfl⟩
          rw [← hme] at Hb7 HO hm Hstep
          have Hme := Lib.hid hme
          clear hme
          have q2 : wr.cell? ⟨w.heap.size + 1, 2, none⟩ = some (.slice A' mm c') := Hb7.out.cell 2
          have hgw : w.heap.size ≤ wr.heap.size := HB.out.size
          go_wp2_with fail
          refine (I.out _).mono ?_; rintro e w' ⟨rfl, rfl⟩
          go_wp2_with (at_builtin; refine wpList_append_any _ rfl (.tmp 57) (.tmp 59) 27 rfl w.heap.size 5 i0 (.int .u8 0) 1 1 Tryd.underlying27 hi.out hz0.out hz1.out hz2.out rfl (by omega) A' mm c' _ rfl (HO.out.alloc _) (wr.heap.size + 1) (some ⟨wr.heap.size, 0, none⟩) 1 1 [.int .u8 (iv : Int)] rfl (reads_one _ _ _) (one_one rfl) (by unfold maxLen; omega) (by omega) (Nat.le_trans hgw (by simp)) ?_; intro A3 c3 w4 ho4 hg4 _hs4; have HB4 := Lib.hid (below_app (HB.out.alloc hgw (.cells #[.int .u8 (iv : Int)] 5)) hg4 (HO.out.alloc _) (Nat.le_trans hgw (by simp))); have hb4 := Lib.hid (blk_grown (Hb7.out.alloc _) (HO.out.alloc _) hg4); have hb6 := Lib.hid (blk_grown (Hb6.out.alloc _) (HO.out.alloc _) hg4); have z2 : w4.cell? ⟨w.heap.size + 1, 2, none⟩ = some (.slice A' mm c') := hb4.out.cell 2; have zf := hb4.out.frozen 2; replace ho4 := Lib.hid ho4; clear hg4 _hs4)
          go_roundw
          case rel =>
            refine ⟨j + 1, c3, A3, by go_num, by omega, HB4.out.setCell (p := ⟨w.heap.size + 1, 2, none⟩) (Nat.le_succ _) _, hb6.out.far (p := ⟨w.heap.size + 1, 2, none⟩) (Nat.ne_of_lt (Nat.lt_succ_self _)) _, ?_, ?_⟩
            · rw [show i * k + (j + 1) = mm + 1 by rw [Hme.out]; omega]
              exact hb4.out.set_ 2 (.slice A3 (mm + 1) c3)
            · rw [show i * k + (j + 1) = mm + 1 by rw [Hme.out]; omega, Hstep.out, List.map_append]
              have h := own_setM (j := 2) ho4.out hb4.out (.slice A3 (mm + 1) c3)
              rw [← HX.out] at h
              exact h
          case measure => simp [intOf]; omega
        · have hjc2 : j = k := by omega
          subst hjc2
          go_wp2_with fail
          go_roundw
          case rel => exact ⟨i + 1, c', A', by go_num, by omega, HB, Hb6, (by rw [Nat.succ_mul]; exact Hb7), (by rw [Nat.succ_mul]; exact HO)⟩
          case measure => simp [intOf]; omega
    · have hir2 : i = m := by omega
      subst hir2
      go_wp2_with (first
        | (refine wpList_load_row rfl 75 _ rfl (w.heap.size + 1) rfl 75 (mC i k (.slice A' (i * k) c')) (0, 0) _ Hb7.out Tryd.underlying75 rfl info_ms ?_)
        | (refine wpList_store_row rfl 75 _ _ rfl w.heap.size (mC i k (.slice A' (i * k) c')) rfl rfl 75 (mC 0 0 (.slice none 0 0)) Hb6.out info_ms rfl (mC_one _ _ _ _ _) ?_))
      exact bodyPost_ret (results_cell_int rfl _ _ w.heap.size (mC i k (.slice A' (i * k) c')) (.int .i64 0) rfl rfl (run_loadVar_row _ w.heap.size 75 _ (mC i k (.slice A' (i * k) c')) (0, 0) _ (Hb6.out.row _) Tryd.underlying75 rfl info_ms)) rfl ⟨A', c', rfl, own_setRowM HO.out Hb6.out _, below_row HB.out (Nat.le_refl _) _⟩
end Go.Proofs.YtjbedcgacnnanaaDoor

namespace Go.Proofs.YtjbedcgacnnanaaDoor
set_option linter.unusedSimpArgs false
set_option linter.unusedVariables false
open Go.RowKit

theorem below_alloc {w W : World} (h : Below w.heap.size w W) (o : Obj) : Below w.heap.size w (W.alloc o) := h.alloc h.size o
theorem below_then {w W W' : World} (h : Below w.heap.size w W) (h' : Below W.heap.size W W') : Below w.heap.size w W' := h.trans (h'.mono h.size)

set_option maxRecDepth 100000 in
theorem may_any (r c : Int) (A : Option Addr) (n k : Nat) (w : World) : Calls Tryd.prog 74 #[.agg (mC r c (.slice A n k))] w fun e w' => e = .returned (.bool (Matp.may r c n)) ∧ Below w.heap.size w w' := by
  have W1 := fun w => Lib.hid (within_any r w)
  have W2 := fun w => Lib.hid (within_any c w)
  have hb : ∀ o, Below w.heap.size w (w.alloc o) := fun o => (Below.refl _ _).alloc (Nat.le_refl _) o
  replace hb := Lib.hid hb
  unfold mC
  by_cases h1 : 0 ≤ r ∧ r ≤ 255
  · rw [show Matp.wi r = true by unfold Matp.wi; simpa using h1] at W1
    by_cases h2 : 0 ≤ c ∧ c ≤ 255
    · rw [show Matp.wi c = true by unfold Matp.wi; simpa using h2] at W2
      obtain ⟨r, rfl⟩ : ∃ m : Nat, r = (m : Int) := ⟨r.toNat, by omega⟩
      obtain ⟨c, rfl⟩ : ∃ m : Nat, c = (m : Int) := ⟨c.toNat, by omega⟩
      have hrc : r * c ≤ 65025 := rc_le (by omega) (by omega)
      have hmul : (r : Int) * (c : Int) = ((r * c : Nat) : Int) := (Int.natCast_mul r c).symm
      have hv : Hid (Matp.may r c n = ((n : Int) == ((r * c : Nat) : Int))) := by
        unfold Matp.may Hid
        rw [Bool.eq_iff_iff, decide_eq_true_eq, beq_iff_eq, hmul]
        exact ⟨fun h => h.2.2, fun h => ⟨h1, h2, h⟩⟩
      rw [hv.out]
      clear hv h1 h2
      generalize r * c = rc at *
      go_enter Tryd.func74, Tryd.ntmps74
      go_wp2_with fail
      refine (W1 _).out.mono ?_; rintro e w' ⟨rfl, rfl⟩
      go_wp2_with fail
      refine (W2 _).out.mono ?_; rintro e w' ⟨rfl, rfl⟩
      go_wp2_with fail
      go_ret
      exact ⟨rfl, hb.out _⟩
    · have hv : Hid (Matp.may r c n = false) := by
        unfold Matp.may; rw [Hid, decide_eq_false_iff_not]; exact fun h => h2 h.2.1
      rw [show Matp.wi c = false by unfold Matp.wi; simpa using h2] at W2
      rw [hv.out]
      clear hv h1 h2
      go_enter Tryd.func74, Tryd.ntmps74
      go_wp2_with fail
      refine (W1 _).out.mono ?_; rintro e w' ⟨rfl, rfl⟩
      go_wp2_with fail
      refine (W2 _).out.mono ?_; rintro e w' ⟨rfl, rfl⟩
      go_wp2_with fail
      go_ret
      exact ⟨rfl, hb.out _⟩
  · have hv : Hid (Matp.may r c n = false) := by
      unfold Matp.may; rw [Hid, decide_eq_false_iff_not]; exact fun h => h1 h.1
    rw [show Matp.wi r = false by unfold Matp.wi; simpa using h1] at W1
    rw [hv.out]
    clear hv h1 W2
    go_enter Tryd.func74, Tryd.ntmps74
    go_wp2_with fail
    refine (W1 _).out.mono ?_; rintro e w' ⟨rfl, rfl⟩
    go_wp2_with fail
    go_ret
    exact ⟨rfl, hb.out _⟩

set_option maxRecDepth 100000 in
theorem refMay_any (r c : Int) (A : Option Addr) (n k : Nat) (w : World) : Calls Tryd.prog 70 #[.agg (mC r c (.slice A n k))] w fun e w' => e = .returned (.bool (Matp.may r c n)) ∧ Below w.heap.size w w' := by
  have hb : ∀ o, Below w.heap.size w (w.alloc o) := fun o => (Below.refl _ _).alloc (Nat.le_refl _) o
  replace hb := Lib.hid hb
  unfold mC
  by_cases h : (0 ≤ r ∧ r ≤ 255) ∧ (0 ≤ c ∧ c ≤ 255)
  · obtain ⟨h1, h2⟩ := h
    obtain ⟨r, rfl⟩ : ∃ m : Nat, r = (m : Int) := ⟨r.toNat, by omega⟩
    obtain ⟨c, rfl⟩ : ∃ m : Nat, c = (m : Int) := ⟨c.toNat, by omega⟩
    have hrc : r * c ≤ 65025 := rc_le (by omega) (by omega)
    have hmul : (r : Int) * (c : Int) = ((r * c : Nat) : Int) := (Int.natCast_mul r c).symm
    have hv : Hid (Matp.may r c n = ((n : Int) == ((r * c : Nat) : Int))) := by
      unfold Matp.may Hid
      rw [Bool.eq_iff_iff, decide_eq_true_eq, beq_iff_eq, hmul]
      exact ⟨fun h => h.2.2, fun h => ⟨h1, h2, h⟩⟩
    rw [hv.out]
    have g1 : (r : Int) ≤ 255 := h1.2
    have g2 : (c : Int) ≤ 255 := h2.2
    clear hv h1 h2
    generalize r * c = rc at *
    go_enter Tryd.func70, Tryd.ntmps70
    go_wp2_with fail
    go_ret
    exact ⟨rfl, hb.out _⟩
  · have hv : Hid (Matp.may r c n = false) := by
      unfold Matp.may; rw [Hid, decide_eq_false_iff_not]; exact fun h2 => h ⟨h2.1, h2.2.1⟩
    rw [hv.out]
    have ho : r < 0 ∨ (0 ≤ r ∧ 255 < r) ∨ (0 ≤ r ∧ r ≤ 255 ∧ c < 0) ∨ (0 ≤ r ∧ r ≤ 255 ∧ 0 ≤ c ∧ 255 < c) := by omega
    clear hv h
    rcases ho with g1 | ⟨g1, g2⟩ | ⟨g1, g2, g3⟩ | ⟨g1, g2, g3, g4⟩
    all_goals
      go_enter Tryd.func70, Tryd.ntmps70
      go_wp2_with fail
      go_ret
      exact ⟨rfl, hb.out _⟩

theorem cau21 : cellsTo 2 (cauC 2) (1 * 2) = [142, 244] := by decide +kernel
end Go.Proofs.YtjbedcgacnnanaaDoor

namespace Go.Proofs.YtjbedcgacnnanaaDoor
set_option linter.unusedSimpArgs false
set_option linter.unusedVariables false
open Go.RowKit

theorem below_boxed {w w' : World} {o : Obj} (h : Below (w.alloc o).heap.size (w.alloc o) w') : Below w.heap.size w w' := ((Below.refl _ _).alloc (Nat.le_refl _) _).trans (h.mono (by simp))
theorem boxedM {w w' : World} {v0 v1 v2 : Value} (h : Below (w.alloc (.cells #[v0, v1, v2] 75)).heap.size (w.alloc (.cells #[v0, v1, v2] 75)) w') :
    (Below (w.alloc (.cells #[v0, v1, v2] 75)).heap.size (w.alloc (.cells #[v0, v1, v2] 75)) w' ∧ w'.cell? ⟨w.heap.size, 0, none⟩ = some v0 ∧ w'.cell? ⟨w.heap.size, 1, none⟩ = some v1 ∧ w'.cell? ⟨w.heap.size, 2, none⟩ = some v2) := by
  have hb := (Blk.new w 75 #[v0, v1, v2]).below h (by simp)
  exact ⟨h, hb.cell 0, hb.cell 1, hb.cell 2⟩

theorem own_keepL {w w' : World} {base n c size : Nat} {e : TypeId} {A : Option Addr} {xs : List Value} (h : w.ownsRow base e size (.slice A n c) n xs) (hk : Below w.heap.size w w') : w'.ownsRow base e size (.slice A n c) n xs := own_belowL h hk

end Go.Proofs.YtjbedcgacnnanaaDoor

namespace Go.Proofs.YtjbedcgacnnanaaDoor
set_option linter.unusedSimpArgs false
set_option linter.unusedVariables false
open Go.RowKit

set_option maxRecDepth 100000 in
theorem row_any (R C i : Nat) (A : Option Addr) (n k : Nat) (w : World) (hR : R ≤ 255) (hC : C ≤ 255) (hi : i < R) (hn : n = R * C) (hnk : n ≤ k) :
    Calls Tryd.prog 75 #[.agg #[.int .i64 R, .int .i64 C, .slice A n k], .int .i64 i] w fun e w' => e = .returned (.slice (cutA A k (i * C) 1) C (k - i * C)) ∧ Below w.heap.size w w' := by
  have hle : (i + 1) * C ≤ R * C := Nat.mul_le_mul_right _ hi
  have hrc := rc_le hR hC
  obtain ⟨i0, hin, hz0, hz1, hz2⟩ := info_parts info_u8
  obtain ⟨p, hp⟩ : ∃ p, p = i * C := ⟨_, rfl⟩
  have hq : (i + 1) * C = p + C := by rw [hp, Nat.succ_mul]
  have hm1 : (i : Int) * (C : Int) = (p : Int) := by rw [hp, Int.natCast_mul]
  have hm2 : ((i : Int) + 1) * (C : Int) = ((p + C : Nat) : Int) := by rw [← hq, Int.natCast_mul]; rfl
  obtain ⟨q, hqq⟩ : ∃ q, q = p + C := ⟨_, rfl⟩
  rw [← hqq] at hm2
  have hsl := run_cut_lh (P := Tryd.prog) 27 5 i0 1 Tryd.underlying27 hin hz1 A n k p q .i64 .i64 (by omega) (by omega)
  rw [← hp]
  have hpb : q ≤ 65025 := by omega
  have hpp : p ≤ 65025 := by omega
  have hqC : q - p = C := by omega
  rw [hqC] at hsl
  have hB : ∀ o, Below w.heap.size w (w.alloc o) := fun o => (Below.refl _ _).alloc (Nat.le_refl _) o
  replace hB := Lib.hid hB
  clear hp hq hle hin hz0 hz1 hz2 hn hnk hqq hqC
  go_enter Tryd.func75, Tryd.ntmps75
  go_wp2_with fail
  go_ret
  exact ⟨rfl, hB.out _⟩

/-- a row of the cells -/
def rowC (bs : List UInt8) (C i : Nat) : List UInt8 := (bs.drop (i * C)).take C
theorem rowC_len (bs : List UInt8) (R C i : Nat) (h : bs.length = R * C) (hi : i < R) : (rowC bs C i).length = C := by
  have hle : (i + 1) * C ≤ R * C := Nat.mul_le_mul_right _ hi
  rw [Nat.succ_mul] at hle
  unfold rowC
  rw [List.length_take, List.length_drop]; omega
theorem row_reads {w : World} {B n k R C i : Nat} {A : Option Addr} {bs : List UInt8} (h : Reads w B 1 A n (bs.map B8)) (hn : n = R * C) (hi : i < R) (hnk : n ≤ k) : Reads w B 1 (cutA A k (i * C) 1) C ((rowC bs C i).map B8) := by
  have hle : (i + 1) * C ≤ R * C := Nat.mul_le_mul_right _ hi
  rw [Nat.succ_mul] at hle
  exact (h.cutN (k := i * C) (by omega) hnk).takeN (by omega)

/-- the rows that are picked, as long as they may be -/
def pickGo (bs : List UInt8) (R C : Nat) : List Int → List UInt8 → Option (List UInt8)
  | [], out => some out
  | x :: r, out => if 0 ≤ x ∧ x < (R : Int) then pickGo bs R C r (out ++ rowC bs C x.toNat) else none
/-- what the document says of rows that are picked: rows, columns, cells and the error's number -/
def pick (r c : Int) (bs : List UInt8) (rows : List Int) : Nat × Nat × List UInt8 × Int :=
  if Matp.may r c bs.length = true ∧ rows.length ≤ 255 then
    match pickGo bs r.toNat c.toNat rows [] with
    | some out => (rows.length, c.toNat, out, 0)
    | none => (0, 0, [], 13)
  else (0, 0, [], 13)
theorem may_nat {r c : Int} {n : Nat} (h : Matp.may r c n = true) : ∃ R C : Nat, r = (R : Int) ∧ c = (C : Int) ∧ R ≤ 255 ∧ C ≤ 255 ∧ n = R * C := by
  unfold Matp.may at h
  simp only [decide_eq_true_eq] at h
  obtain ⟨⟨h1, h2⟩, ⟨h3, h4⟩, h5⟩ := h
  refine ⟨r.toNat, c.toNat, by omega, by omega, by omega, by omega, ?_⟩
  have e1 : r = (r.toNat : Int) := by omega
  have e2 : c = (c.toNat : Int) := by omega
  rw [e1, e2, ← Int.natCast_mul] at h5
  exact_mod_cast h5
theorem ints_cells {w : World} {B n : Nat} {A : Option Addr} {xs : List Int} (h : Reads w B 1 A n (xs.map I64)) (hn : 0 < n) : ∃ ad, A = some ad ∧ ∀ j (hj : j < xs.length), w.cell? (ad.add j) = some (.int .i64 xs[j]) := by
  obtain ⟨ad, hA, _, hc⟩ := h.2 hn
  exact ⟨ad, hA, fun j hj => hc j (I64 xs[j]) (by rw [List.getElem?_map, List.getElem?_eq_getElem hj]; rfl)⟩
theorem mC_eq (r c : Int) (v : Value) : (#[.int .i64 r, .int .i64 c, v] : Array Value) = mC r c v := rfl

set_option maxRecDepth 100000 in
theorem pick_bad (r c : Int) (A A' : Option Addr) (n k n' k' : Nat) (w : World) (h : ¬ (Matp.may r c n = true ∧ n' ≤ 255)) :
    Calls Tryd.prog 65 #[.agg #[.int .i64 r, .int .i64 c, .slice A n k], .slice A' n' k'] w (MRet w 0 0 [] 13) := by
  have M := fun W => Lib.hid (may_any r c A n k W)
  unfold mC at M
  have hz := (zero_of_info info_m).1
  by_cases hm : Matp.may r c n = true
  · have hn : (255 : Int) < n' := by
      rcases Nat.lt_or_ge 255 n' with h1 | h1
      · omega
      · exact absurd ⟨hm, h1⟩ h
    rw [hm] at M
    clear h hm
    go_enter Tryd.func65, Tryd.ntmps65
    go_wp2_with fail
    refine (M _).out.mono ?_; rintro e w1 ⟨rfl, hB1⟩
    have hb4 : Blk w1 (w.heap.size + 1) 75 (mC 0 0 (.slice none 0 0)) := by
      refine Blk.below ?_ hB1 (by simp)
      have h := Blk.new (w.alloc (.cells #[.int .i64 r, .int .i64 c, .slice A n k] 75)) 75 (mC 0 0 (.slice none 0 0))
      simpa [mC] using h
    have HB1 := Lib.hid (((Below.refl w.heap.size w).alloc (Nat.le_refl _) (.cells #[.int .i64 r, .int .i64 c, .slice A n k] 75)).alloc (by simp) (.cells #[.int .i64 0, .int .i64 0, .slice none 0 0] 75) |>.trans (hB1.mono (by simp; omega)))
    replace hb4 := Lib.hid hb4
    clear hB1
    go_wp2_with (refine wpList_store_row rfl 75 _ _ rfl (w.heap.size + 1) (mC 0 0 (.slice none 0 0)) rfl rfl 75 (mC 0 0 (.slice none 0 0)) hb4.out info_ms rfl (mC_one _ _ _ _ _) ?_)
    exact bodyPost_ret (results_cell_int rfl _ _ (w.heap.size + 1) (mC 0 0 (.slice none 0 0)) (.int .i64 13) rfl rfl (run_loadVar_row _ (w.heap.size + 1) 75 _ (mC 0 0 (.slice none 0 0)) (0, 0) _ (hb4.out.row _) Tryd.underlying75 rfl info_ms)) rfl ⟨none, 0, rfl, World.ownsRow_nil _ _ _ 1, below_row HB1.out (Nat.le_succ _) _⟩
  · have hm' : Matp.may r c n = false := by simpa using hm
    rw [hm'] at M
    clear h hm hm'
    go_enter Tryd.func65, Tryd.ntmps65
    go_wp2_with fail
    refine (M _).out.mono ?_; rintro e w1 ⟨rfl, hB1⟩
    have hb4 : Blk w1 (w.heap.size + 1) 75 (mC 0 0 (.slice none 0 0)) := by
      refine Blk.below ?_ hB1 (by simp)
      have h := Blk.new (w.alloc (.cells #[.int .i64 r, .int .i64 c, .slice A n k] 75)) 75 (mC 0 0 (.slice none 0 0))
      simpa [mC] using h
    have HB1 := Lib.hid (((Below.refl w.heap.size w).alloc (Nat.le_refl _) (.cells #[.int .i64 r, .int .i64 c, .slice A n k] 75)).alloc (by simp) (.cells #[.int .i64 0, .int .i64 0, .slice none 0 0] 75) |>.trans (hB1.mono (by simp; omega)))
    replace hb4 := Lib.hid hb4
    clear hB1
    go_wp2_with (refine wpList_store_row rfl 75 _ _ rfl (w.heap.size + 1) (mC 0 0 (.slice none 0 0)) rfl rfl 75 (mC 0 0 (.slice none 0 0)) hb4.out info_ms rfl (mC_one _ _ _ _ _) ?_)
    exact bodyPost_ret (results_cell_int rfl _ _ (w.heap.size + 1) (mC 0 0 (.slice none 0 0)) (.int .i64 13) rfl rfl (run_loadVar_row _ (w.heap.size + 1) 75 _ (mC 0 0 (.slice none 0 0)) (0, 0) _ (hb4.out.row _) Tryd.underlying75 rfl info_ms)) rfl ⟨none, 0, rfl, World.ownsRow_nil _ _ _ 1, below_row HB1.out (Nat.le_succ _) _⟩
theorem pickGo_step (bs : List UInt8) (R C : Nat) (xs : List Int) (j : Nat) (hj : j < xs.length) (out : List UInt8) : pickGo bs R C (xs.drop j) out = if 0 ≤ xs[j] ∧ xs[j] < (R : Int) then pickGo bs R C (xs.drop (j + 1)) (out ++ rowC bs C xs[j].toNat) else none := by
  rw [List.drop_eq_getElem_cons hj]; rfl
theorem row_one {w : World} {B n : Nat} {A : Option Addr} {bs : List UInt8} (_h : Reads w B 1 A n (bs.map B8)) : ∀ u ∈ bs.map B8, u.oneCell' = true := by
  intro u hu
  obtain ⟨b, _, rfl⟩ := List.mem_map.1 hu
  rfl

set_option maxRecDepth 100000 in
set_option maxHeartbeats 4000000 in
theorem pick_in (R C : Nat) (A A' : Option Addr) (n k n' k' : Nat) (bs : List UInt8) (xs : List Int) (w : World) (hR : R ≤ 255) (hC : C ≤ 255) (hn : n = R * C) (hnk : n ≤ k) (h255 : n' ≤ 255)
    (h : Reads w w.heap.size 1 A n (bs.map B8)) (h' : Reads w w.heap.size 1 A' n' (xs.map I64)) (P0 : Ending → World → Prop)
    (hS : ∀ out, pickGo bs R C xs [] = some out → ∀ e w', MRet w n' C out 0 e w' → P0 e w') (hN : pickGo bs R C xs [] = none → ∀ e w', MRet w 0 0 [] 13 e w' → P0 e w') :
    Calls Tryd.prog 65 #[.agg #[.int .i64 R, .int .i64 C, .slice A n k], .slice A' n' k'] w P0 := by
  have M := fun W => Lib.hid (may_any R C A n k W)
  unfold mC at M
  have hm : Matp.may (R : Int) (C : Int) n = true := by
    unfold Matp.may; rw [hn, Int.natCast_mul]; simp; omega
  rw [hm] at M
  have hl : xs.length = n' := by have := h'.1; simpa using this
  have hbl : bs.length = R * C := by have := h.len; omega
  have hz := (zero_of_info info_m).1
  obtain ⟨i0, hi, hz0, hz1, hz2⟩ := info_parts info_u8
  replace hi := Lib.hid hi; replace hz0 := Lib.hid hz0; replace hz1 := Lib.hid hz1; replace hz2 := Lib.hid hz2
  replace hS := Lib.hid hS; replace hN := Lib.hid hN
  have RA := Lib.hid (fun (i : Nat) (W : World) (hi : i < R) => row_any R C i A n k W hR hC hi hn hnk)
  have RR := Lib.hid (fun (i : Nat) (W : World) (hi : i < R) (hB : Below w.heap.size w W) => row_reads (i := i) (h.below hB) hn hi hnk)
  have RL := Lib.hid (fun (i : Nat) (hi : i < R) => rowC_len bs R C i hbl hi)
  have L := Lib.hid hl
  have H' := Lib.hid h'
  clear hm h h' hn hnk hl hbl
  go_enter Tryd.func65, Tryd.ntmps65
  go_wp2_with fail
  refine (M _).out.mono ?_; rintro e w1 ⟨rfl, hB1⟩
  have hb2 : Blk w1 w.heap.size 75 (mC R C (.slice A n k)) := Blk.below ((Blk.new w _ _).alloc _) hB1 (by simp; omega)
  have hb4 : Blk w1 (w.heap.size + 1) 75 (mC 0 0 (.slice none 0 0)) := by
    refine Blk.below ?_ hB1 (by simp)
    have h := Blk.new (w.alloc (.cells #[.int .i64 R, .int .i64 C, .slice A n k] 75)) 75 (mC 0 0 (.slice none 0 0))
    simpa [mC] using h
  have HB1 := ((Below.refl w.heap.size w).alloc (Nat.le_refl _) (.cells #[.int .i64 R, .int .i64 C, .slice A n k] 75)).alloc (by simp) (.cells #[.int .i64 0, .int .i64 0, .slice none 0 0] 75) |>.trans (hB1.mono (by simp; omega))
  have y1 : w1.cell? ⟨w.heap.size, 1, none⟩ = some (.int .i64 C) := hb2.cell 1
  have hgw1 : w.heap.size + 1 < w1.heap.size := hb4.lt
  replace HB1 := Lib.hid HB1; replace hb2 := Lib.hid hb2; replace hb4 := Lib.hid hb4
  clear hB1
  go_wp2_with fail
  have hB3 := below_alloc HB1.out (.cells #[.int .i64 n', .int .i64 C, .slice none 0 0] 75)
  have hb23 := hb2.out.alloc (.cells #[.int .i64 n', .int .i64 C, .slice none 0 0] 75)
  have hb43 := hb4.out.alloc (.cells #[.int .i64 n', .int .i64 C, .slice none 0 0] 75)
  have hb63 : Blk (w1.alloc (.cells #[.int .i64 n', .int .i64 C, .slice none 0 0] 75)) w1.heap.size 75 (mC n' C (.slice none 0 0)) := Blk.new _ _ _
  generalize w1.alloc (.cells #[.int .i64 n', .int .i64 C, .slice none 0 0] 75) = w3 at *
  generalize w1.heap.size = g6 at *
  replace hB3 := Lib.hid hB3; replace hb23 := Lib.hid hb23; replace hb43 := Lib.hid hb43; replace hb63 := Lib.hid hb63
  clear HB1 hb2 hb4 y1 hz M
  go_loopw [25] (fun v25 wr => ∃ (j c' : Nat) (A1 : Option Addr) (out : List UInt8), v25 = .int .i64 j ∧ j ≤ n' ∧ Hid (Below w.heap.size w wr) ∧ Hid (Blk wr w.heap.size 75 (mC R C (.slice A n k))) ∧ Hid (Blk wr (w.heap.size + 1) 75 (mC 0 0 (.slice none 0 0))) ∧ Hid (Blk wr g6 75 (mC n' C (.slice A1 (j * C) c'))) ∧ Hid (wr.ownsRow w.heap.size 5 1 (.slice A1 (j * C) c') (j * C) (out.map B8)) ∧ Hid (pickGo bs R C (xs.drop j) out = pickGo bs R C xs [])) (fun v25 _ => n' - (intOf v25).toNat)
  case atStart => exact ⟨0, 0, none, [], rfl, by omega, hB3, hb23, hb43, by rw [Nat.zero_mul]; exact hb63, by rw [Nat.zero_mul]; exact World.ownsRow_nil _ _ _ 1, rfl⟩
  case round =>
    obtain ⟨j, c', A1, out, rfl, hjn, HB, Hb2, Hb4, Hb6, HO, HP⟩ := hrel
    by_cases hlt : j < n'
    · have hlt' : (j : Int) < n' := by omega
      have hgw : w.heap.size + 1 < wr.heap.size := Hb4.out.lt
      obtain ⟨ad, rfl, hcell⟩ := ints_cells (H'.out.below HB.out) (by omega)
      have hjx : j < xs.length := by rw [L.out]; exact hlt
      have e1 := hcell j hjx
      have HP2 := Lib.hid (pickGo_step bs R C xs j hjx out)
      have y0 : wr.cell? ⟨w.heap.size, 0, none⟩ = some (.int .i64 R) := Hb2.out.cell 0
      have y1 : wr.cell? ⟨w.heap.size, 1, none⟩ = some (.int .i64 C) := Hb2.out.cell 1
      have y2 : wr.cell? ⟨w.heap.size, 2, none⟩ = some (.slice A n k) := Hb2.out.cell 2
      clear hcell
      generalize xs[j] = x at *
      by_cases hx : 0 ≤ x ∧ x < (R : Int)
      · skip
        rw [if_pos hx] at HP2
        obtain ⟨i, rfl⟩ : ∃ i : Nat, x = (i : Int) := ⟨x.toNat, by omega⟩
        obtain ⟨hx0, hxR⟩ := hx
        have hiR : i < R := by omega
        rw [Int.toNat_natCast] at HP2
        have hm : (j + 1) * C ≤ 65025 := rc_le (by omega) hC
        rw [Nat.succ_mul] at hm
        have Hm1 : Hid ((j + 1) * C = j * C + C) := Nat.succ_mul _ _
        generalize j * C = m at *
        have z2 : wr.cell? ⟨g6, 2, none⟩ = some (.slice A1 m c') := Hb6.out.cell 2
        have hb1 : m + C ≤ maxLen := by unfold maxLen; omega
        have hb2 : (m + C) * 1 ≤ 140737488355328 := by omega
        have Rc := Lib.hid (fun W => RA.out i W hiR)
        have RrI := Lib.hid (fun W hB => RR.out i W hiR hB)
        have RlI := Lib.hid (RL.out i hiR)
        go_wp2_with fail
        have KEEP : Hid (∀ W, Below wr.heap.size wr W → W.cell? ⟨g6, 2, none⟩ = some (.slice A1 m c') ∧ W.cell? ⟨w.heap.size, 0, none⟩ = some (.int .i64 R) ∧ W.cell? ⟨w.heap.size, 1, none⟩ = some (.int .i64 C) ∧ W.cell? ⟨w.heap.size, 2, none⟩ = some (.slice A n k)) := fun W hW => ⟨(Hb6.out.below hW Hb6.out.lt).cell 2, (Hb2.out.below hW Hb2.out.lt).cell 0, (Hb2.out.below hW Hb2.out.lt).cell 1, (Hb2.out.below hW Hb2.out.lt).cell 2⟩
        obtain ⟨z2d, y0d, y1d, y2d⟩ := KEEP.out wr.drew (Below.refl _ _).drew
        have hg6 : w.heap.size + 1 < g6 := hgw1
        go_region_law
          (first
            | (go_simp; go_at_call 75; ((with_reducible refine (Rc.out _).mono ?_); rintro e w5 ⟨rfl, hB5⟩; obtain ⟨z25, y05, y15, y25⟩ := KEEP.out w5 (by first | exact hB5 | exact ((Below.refl _ _).drew).trans hB5); have HB5 : Hid (Below wr.heap.size wr w5) := (by first | exact hB5 | exact ((Below.refl _ _).drew).trans hB5); clear hB5))
            | (refine step_append_any _ (by rfl) _ _ _ (by rfl) w.heap.size 5 i0 (.int .u8 0) 1 1 Tryd.underlying27 hi.out hz0.out hz1.out hz2.out rfl (by omega) A1 m c' _ (by rfl) (own_belowL HO.out HB5.out) w.heap.size _ C (k - i * C) _ (by rfl) (RrI.out _ (HB.out.trans (HB5.out.mono (by omega)))) (row_one (w := w5) (B := w.heap.size) (n := C) (RrI.out _ (HB.out.trans (HB5.out.mono (by omega))))) hb1 hb2 (show w.heap.size ≤ w5.heap.size from Nat.le_trans (by omega) HB5.out.size) ?_
               intro A3 c3 w4 ho4 hg4 _hs4
               have ho5 := own_belowL HO.out HB5.out
               have hb4 : Blk w4 g6 75 (mC n' C (.slice A1 m c')) := blk_grown (Hb6.out.below HB5.out Hb6.out.lt) ho5 hg4
               have hbr : Blk w4 (w.heap.size + 1) 75 (mC 0 0 (.slice none 0 0)) := blk_grown (Hb4.out.below HB5.out Hb4.out.lt) ho5 hg4
               have hbm : Blk w4 w.heap.size 75 (mC R C (.slice A n k)) := blk_grown (Hb2.out.below HB5.out Hb2.out.lt) ho5 hg4
               have hB4 : Below w.heap.size w w4 := below_app (HB.out.trans (HB5.out.mono (by omega))) hg4 ho5 (show w.heap.size ≤ w5.heap.size from Nat.le_trans (by omega) HB5.out.size)
               have z24 : w4.cell? ⟨g6, 2, none⟩ = some (.slice A1 m c') := hb4.cell 2
               have zf4 : w4.frozen? ⟨g6, 2, none⟩ = false := hb4.frozen 2
               replace ho4 := Lib.hid ho4; replace hb4 := Lib.hid hb4; replace hbr := Lib.hid hbr; replace hbm := Lib.hid hbm; replace hB4 := Lib.hid hB4; clear hg4 _hs4 ho5))
        all_goals
          go_wp2_with fail
          go_roundw
          case rel =>
            refine ⟨j + 1, c3, A3, out ++ rowC bs C i, by go_num, by omega, hB4.out.setCell (p := ⟨g6, 2, none⟩) (Nat.le_of_lt (Nat.lt_trans (Nat.lt_succ_self _) hg6)) _, hbm.out.far (p := ⟨g6, 2, none⟩) (Nat.ne_of_lt (Nat.lt_trans (Nat.lt_succ_self _) hg6)) _, hbr.out.far (p := ⟨g6, 2, none⟩) (Nat.ne_of_lt hg6) _, ?_, ?_, ?_⟩
            · rw [Hm1.out]
              exact hb4.out.set_ 2 (.slice A3 (m + C) c3)
            · rw [Hm1.out, List.map_append]
              exact own_setM (j := 2) ho4.out hb4.out (.slice A3 (m + C) c3)
            · exact HP2.out.symm.trans HP.out
          case measure => simp [intOf]; omega
      · rw [if_neg hx] at HP2
        have HN : Hid (pickGo bs R C xs [] = none) := HP.out.symm.trans HP2.out
        have hx' : x < 0 ∨ (0 ≤ x ∧ (R : Int) ≤ x) := by omega
        clear hx
        rcases hx' with hx | ⟨hx, hx2⟩
        all_goals
          go_wp2_with (refine wpList_store_row rfl 75 _ _ rfl (w.heap.size + 1) (mC 0 0 (.slice none 0 0)) rfl rfl 75 (mC 0 0 (.slice none 0 0)) Hb4.out info_ms rfl (mC_one _ _ _ _ _) ?_)
          exact bodyPost_ret (results_cell_int rfl _ _ (w.heap.size + 1) (mC 0 0 (.slice none 0 0)) (.int .i64 13) rfl rfl (run_loadVar_row _ (w.heap.size + 1) 75 _ (mC 0 0 (.slice none 0 0)) (0, 0) _ (Hb4.out.row _) Tryd.underlying75 rfl info_ms)) rfl (hN.out HN.out _ _ ⟨none, 0, rfl, World.ownsRow_nil _ _ _ 1, below_row HB.out (Nat.le_succ _) _⟩)
    · have hjn2 : j = n' := by omega
      have HS : Hid (pickGo bs R C xs [] = some out) := by
        rw [← HP.out, List.drop_of_length_le (by rw [L.out]; omega)]; rfl
      have hge : (n' : Int) ≤ j := by omega
      have hol : Hid (out.length = j * C) := by have h := HO.out.1; unfold Hid; simpa using h
      rw [← hol.out] at HO Hb6
      go_wp2_with (first
        | (refine wpList_load_row rfl 75 _ rfl g6 rfl 75 (mC n' C (.slice A1 out.length c')) (0, 0) _ Hb6.out Tryd.underlying75 rfl info_ms ?_)
        | (refine wpList_store_row rfl 75 _ _ rfl (w.heap.size + 1) (mC n' C (.slice A1 out.length c')) rfl rfl 75 (mC 0 0 (.slice none 0 0)) Hb4.out info_ms rfl (mC_one _ _ _ _ _) ?_))
      exact bodyPost_ret (results_cell_int rfl _ _ (w.heap.size + 1) (mC n' C (.slice A1 out.length c')) (.int .i64 0) rfl rfl (run_loadVar_row _ (w.heap.size + 1) 75 _ (mC n' C (.slice A1 out.length c')) (0, 0) _ (Hb4.out.row _) Tryd.underlying75 rfl info_ms)) rfl (hS.out out HS.out _ _ ⟨A1, c', rfl, own_setRowM HO.out Hb4.out _, below_row HB.out (Nat.le_succ _) _⟩)
end Go.Proofs.YtjbedcgacnnanaaDoor

namespace Go.Proofs.YtjbedcgacnnanaaDoor
set_option linter.unusedSimpArgs false
set_option linter.unusedVariables false
open Go.RowKit

theorem grown_refl (w : World) (row : Option Nat) : w.grownBy w row := ⟨rfl, rfl, rfl, Nat.le_refl _, fun _ _ _ => rfl⟩
theorem add_zero_off (g j : Nat) : (⟨g, 0, none⟩ : Addr).add j = ⟨g, j, none⟩ := by unfold Addr.add; split <;> simp_all
theorem grown_setRow (w : World) (g : Nat) (cs : Array Value) : w.grownBy (w.setRow g cs) (some g) := ⟨rfl, rfl, rfl, by rw [size_setRow]; exact Nat.le_refl _, fun k _ hk => setRow_other w g k cs (fun e => hk (by rw [e]))⟩

theorem wpList_copy_in {P : Program} {w : World} {ops : Array Oper} {rest : List Oper} {o : Oper} {a : Act} {Q : Exit → Act → World → Prop} (hgd : o.guard = none) (d s : Operand) (dT sT : TypeId)
    (ho : o.op = .call { callee := .builtin .copy, args := #[d, s], argTypes := #[dT, sT] }) (elem : TypeId) (hu : P.underlying dT = some (.slice elem)) (hsz : (P.info? elem).map (·.size) = some 1)
    (A : Option Addr) (n c off C base dc : Nat) (xs : List Value) (hd : a.eval d = .slice (cutA A c off 1) C dc) (hown : w.ownsRow base elem 1 (.slice A n c) n xs) (hoff : off + C ≤ n)
    (sp : Option Addr) (sc : Nat) (hs : a.eval s = .slice sp C sc) (B : Nat) (news : List Value) (hr : Reads w B 1 sp C news) (h1 : ∀ u ∈ news, u.oneCell' = true)
    (h : ∀ w', w'.ownsRow base elem 1 (.slice A n c) n (splice xs off news) → w.grownBy w' (A.map (·.block)) → wpList P ops Q rest (a.put o.dst (goInt C)) w') :
    wpList P ops Q (o :: rest) a w := by
  have hnl : news.length = C := by have := hr.1; omega
  by_cases h0 : C = 0
  · subst h0
    obtain rfl : news = [] := List.eq_nil_of_length_eq_zero hnl
    refine wpList_copy_nothing hgd d s dT sT ho elem hu hsz _ _ _ _ _ _ hd hs (by simp) ?_
    exact h w (by simpa [splice] using hown) (grown_refl w _)
  · obtain ⟨ad, rfl, _, hcell⟩ := hr.2 (by omega)
    rcases hown.2 with ⟨_, hn0⟩ | ⟨g, cap, cur, hv, hbg, hg, hnc, hcm, hcur, htk⟩
    · omega
    · injection hv with hA _ hcap
      subst hcap
      subst hA
      have hcut : cutA (some ⟨g, 0, none⟩) c off 1 = some ⟨g, off, none⟩ := by
        unfold cutA
        rw [if_neg (by omega), Nat.mul_one, Option.map_some, add_zero_off]
      rw [hcut] at hd
      rw [Nat.mul_one] at hcur htk
      rw [← hnl] at h hd hs hoff
      refine wpList_copy_own hgd d s dT sT ho elem hu hsz g off _ dc ad _ sc hd hs cur elem hg news (by simp) hcell (by omega) h1 ?_
      refine h _ ⟨?_, Or.inr ⟨g, c, _, rfl, hbg, setRow_heap w g cur _ elem (0, 0) hg, hnc, hcm, ?_, ?_⟩⟩ (grown_setRow w g _)
      · have hl := hown.1
        rw [length_splice _ _ _ (by omega)]; exact hl
      · have hlen : cur.toList.length = c := by rw [Array.length_toList]; exact hcur
        simp only [List.size_toArray, List.length_append, List.length_take, List.length_drop, Nat.mul_one]
        omega
      · rw [Nat.mul_one]
        show (splice cur.toList off news).take n = splice xs off news
        rw [← htk]
        apply List.ext_getElem?
        intro t
        have hlen : cur.toList.length = c := by rw [Array.length_toList]; exact hcur
        simp only [splice, List.getElem?_append, List.getElem?_take, List.getElem?_drop, List.length_take, List.length_drop]
        rw [Nat.min_eq_left (show off ≤ cur.toList.length by omega), Nat.min_eq_left (show off ≤ min n cur.toList.length by omega)]
        by_cases hA : t < off
        · simp only [hA, show t < n by omega, if_true]
        · by_cases hB : t - off < news.length
          · rw [if_pos (show t < n by omega), if_neg hA, if_pos hB, if_neg hA, if_pos hB]
          · rw [if_neg hA, if_neg hB, if_neg hA, if_neg hB]
            by_cases hC : t < n
            · rw [if_pos hC, if_pos (show off + news.length + (t - off - news.length) < n by omega)]
            · rw [if_neg hC, if_neg (show ¬ off + news.length + (t - off - news.length) < n by omega)]

theorem splice_map {α β : Type} (f : α → β) (l : List α) (off : Nat) (c : List α) : (splice l off c).map f = splice (l.map f) off (c.map f) := by
  simp [splice, List.map_take, List.map_drop]
theorem splice_get {α : Type} (l : List α) (off : Nat) (c : List α) (t : Nat) (h : off ≤ l.length) : (splice l off c)[t]? = if t < off then l[t]? else if t < off + c.length then c[t - off]? else l[t]? := by
  simp only [splice, List.getElem?_append, List.getElem?_take, List.getElem?_drop, List.length_take]
  rw [Nat.min_eq_left h]
  by_cases h1 : t < off
  · rw [if_pos h1, if_pos h1, if_pos h1]
  · rw [if_neg h1, if_neg h1]
    by_cases h2 : t < off + c.length
    · rw [if_pos (by omega), if_pos h2]
    · rw [if_neg (by omega), if_neg h2]
      congr 1; omega
theorem cellsTo_get (C : Nat) (f : Nat → Nat → UInt8) (n t : Nat) (h : t < n) : (cellsTo C f n)[t]? = some (f (t / C) (t % C)) := by
  unfold cellsTo
  rw [List.getElem?_map, List.getElem?_range h]; rfl
theorem cellsTo_none (C : Nat) (f : Nat → Nat → UInt8) (n t : Nat) (h : ¬ t < n) : (cellsTo C f n)[t]? = none := List.getElem?_eq_none (by rw [cellsTo_len]; omega)
/-- a row of the cells, told by a function -/
def rowF (C : Nat) (g : Nat → UInt8) : List UInt8 := (List.range C).map g
theorem rowF_len (C : Nat) (g : Nat → UInt8) : (rowF C g).length = C := by simp [rowF]
theorem rowF_get (C : Nat) (g : Nat → UInt8) (t : Nat) (h : t < C) : (rowF C g)[t]? = some (g t) := by
  unfold rowF
  rw [List.getElem?_map, List.getElem?_range h]; rfl
theorem row_lt {R C i t : Nat} (hi : i < R) (ht : t < C) : i * C + t < R * C := by
  have hle : (i + 1) * C ≤ R * C := Nat.mul_le_mul_right _ hi
  rw [Nat.succ_mul] at hle; omega
theorem div_row {C i t : Nat} (ht : t < C) : (i * C + t) / C = i ∧ (i * C + t) % C = t := by
  constructor
  · rw [Nat.mul_comm, Nat.mul_add_div (by omega), Nat.div_eq_of_lt ht, Nat.add_zero]
  · rw [Nat.mul_comm, Nat.mul_add_mod, Nat.mod_eq_of_lt ht]
theorem rowC_cellsTo (R C i : Nat) (f : Nat → Nat → UInt8) (hi : i < R) : rowC (cellsTo C f (R * C)) C i = rowF C (f i) := by
  apply List.ext_getElem?
  intro t
  unfold rowC
  rw [List.getElem?_take, List.getElem?_drop]
  by_cases ht : t < C
  · rw [if_pos ht, cellsTo_get _ _ _ _ (row_lt hi ht), rowF_get _ _ _ ht, (div_row ht).1, (div_row ht).2]
  · rw [if_neg ht, List.getElem?_eq_none (by rw [rowF_len]; omega)]
theorem put_cellsTo (R C i : Nat) (f : Nat → Nat → UInt8) (g : Nat → UInt8) (hi : i < R) : splice (cellsTo C f (R * C)) (i * C) (rowF C g) = cellsTo C (fun i' j => if i' = i then g j else f i' j) (R * C) := by
  have hle : (i + 1) * C ≤ R * C := Nat.mul_le_mul_right _ hi
  rw [Nat.succ_mul] at hle
  apply List.ext_getElem?
  intro t
  rw [splice_get _ _ _ _ (by rw [cellsTo_len]; omega), rowF_len]
  by_cases h1 : t < R * C
  · have hC : 0 < C := by
      rcases Nat.eq_zero_or_pos C with h0 | h0
      · rw [h0, Nat.mul_zero] at h1; omega
      · exact h0
    rw [cellsTo_get _ _ _ _ h1, cellsTo_get _ _ _ _ h1]
    have hdm := Nat.div_add_mod t C
    have hml := Nat.mod_lt t hC
    rw [Nat.mul_comm] at hdm
    by_cases h2 : t < i * C
    · rw [if_pos h2]
      have hd : t / C < i := (Nat.div_lt_iff_lt_mul hC).2 h2
      rw [if_neg (by omega)]
    · rw [if_neg h2]
      by_cases h3 : t < i * C + C
      · rw [if_pos h3, rowF_get _ _ _ (by omega)]
        obtain ⟨s, hs⟩ : ∃ s, t = i * C + s := ⟨t - i * C, by omega⟩
        rw [hs, (div_row (show s < C by omega)).1, (div_row (show s < C by omega)).2, if_pos rfl]
        congr 2; omega
      · rw [if_neg h3]
        have hd : i + 1 ≤ t / C := (Nat.le_div_iff_mul_le hC).2 (by rw [Nat.succ_mul]; omega)
        rw [if_neg (by omega)]
  · rw [cellsTo_none _ _ _ _ h1, if_neg (by omega), if_neg (by omega), cellsTo_none _ _ _ _ h1]
theorem cellsTo_congr (R C : Nat) (f g : Nat → Nat → UInt8) (h : ∀ i j, i < R → j < C → f i j = g i j) : cellsTo C f (R * C) = cellsTo C g (R * C) := by
  unfold cellsTo
  apply List.map_congr_left
  intro t ht
  have ht' := List.mem_range.1 ht
  have hC : 0 < C := by
    rcases Nat.eq_zero_or_pos C with h0 | h0
    · rw [h0, Nat.mul_zero] at ht'; omega
    · exact h0
  exact h _ _ ((Nat.div_lt_iff_lt_mul hC).2 ht') (Nat.mod_lt _ hC)
/-- cells of any list, as a function of row and column -/
def cellAt (bs : List UInt8) (C i j : Nat) : UInt8 := bs.getD (i * C + j) 0
theorem cellsTo_of (bs : List UInt8) (R C : Nat) (h : bs.length = R * C) : bs = cellsTo C (cellAt bs C) (R * C) := by
  apply List.ext_getElem?
  intro t
  by_cases h1 : t < R * C
  · rw [cellsTo_get _ _ _ _ h1, cellAt, Nat.mul_comm, Nat.div_add_mod, List.getD_eq_getElem?_getD, List.getElem?_eq_getElem (by omega)]; rfl
  · rw [cellsTo_none _ _ _ _ h1, List.getElem?_eq_none (by omega)]
theorem rowC_at (bs : List UInt8) (R C i : Nat) (h : bs.length = R * C) (hi : i < R) : rowC bs C i = rowF C (cellAt bs C i) := by
  conv => lhs; rw [cellsTo_of bs R C h]
  exact rowC_cellsTo R C i _ hi
theorem addL_rowF (C : Nat) (f g : Nat → UInt8) (c : UInt8) : addL (rowF C f) c (rowF C g) = rowF C (fun j => f j ^^^ fm c (g j)) := by
  apply list_ext_getD
  · rw [addL_length, rowF_len, rowF_len]
  · intro t ht
    have ht' := ht
    rw [addL_length, rowF_len] at ht'
    rw [addL_getD _ _ _ _ (by rw [rowF_len]; exact ht')]
    simp only [List.getD_eq_getElem?_getD, rowF_get _ _ _ ht', Option.getD_some]
end Go.Proofs.YtjbedcgacnnanaaDoor
