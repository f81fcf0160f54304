/-
  The document's identities and Cauchy's matrices, walked.
-/
import Derived.Test.YtbokbndphpdgoaaMaty
namespace Go.Proofs.Ytbokbndphpdgoaa
set_option linter.unusedSimpArgs false
set_option linter.unusedVariables false
open Go.RowKit

theorem cellsTo_one (cols : Nat) (cell : Nat → Nat → UInt8) (i : Nat) : cellsTo cols cell (i + 1) = cellsTo cols cell i ++ [cell (i / cols) (i % cols)] := by
  unfold cellsTo; rw [List.range_succ, List.map_append]; rfl

set_option maxRecDepth 100000 in
set_option maxHeartbeats 2000000 in
theorem refIdentity_in (n : Nat) (w : World) (hn : n ≤ 255) : Calls Try.prog 18 #[.int .i64 n] w (MRet w n n (cellsTo n oneC (n * n)) 0) := by
  obtain ⟨i0, hi, hz0, hz1, hz2⟩ := info_parts info_u8
  replace hi := Lib.hid hi; replace hz0 := Lib.hid hz0; replace hz1 := Lib.hid hz1; replace hz2 := Lib.hid hz2
  have hz := (zero_of_info info_m).1
  have hnn := rc_le hn hn
  have hl := cellsTo_len n oneC (n * n)
  unfold MRet
  rw [hl]
  clear hl
  have hmul : (n : Int) * (n : Int) = ((n * n : Nat) : Int) := (Int.natCast_mul n n).symm
  have Hn0 : Hid (∀ i, i < n * n → n ≠ 0) := fun i hi h => by rw [h] at hi; omega
  obtain ⟨nn, hnne⟩ : ∃ nn, nn = n * n := ⟨_, rfl⟩
  rw [← hnne] at hnn hmul Hn0 ⊢
  clear hnne
  go_enter Try.func18, Try.ntmps18
  go_wp2_with fail
  have hB3 : Below w.heap.size w ((w.alloc (.cells #[.int .i64 0, .int .i64 0, .slice none 0 0] 24)).alloc (.cells #[.int .i64 n, .int .i64 n, .slice none 0 0] 24)) := ((Below.refl _ _).alloc (Nat.le_refl _) _).alloc (by simp) _
  have hb3 : Blk ((w.alloc (.cells #[.int .i64 0, .int .i64 0, .slice none 0 0] 24)).alloc (.cells #[.int .i64 n, .int .i64 n, .slice none 0 0] 24)) w.heap.size 24 (mC 0 0 (.slice none 0 0)) := (Blk.new w _ _).alloc _
  have hb7 : Blk ((w.alloc (.cells #[.int .i64 0, .int .i64 0, .slice none 0 0] 24)).alloc (.cells #[.int .i64 n, .int .i64 n, .slice none 0 0] 24)) (w.heap.size + 1) 24 (mC n n (.slice none 0 0)) := by
    have h := Blk.new (w.alloc (.cells #[.int .i64 0, .int .i64 0, .slice none 0 0] 24)) 24 (mC n n (.slice none 0 0))
    simpa [mC] using h
  generalize (w.alloc (.cells #[.int .i64 0, .int .i64 0, .slice none 0 0] 24)).alloc (.cells #[.int .i64 n, .int .i64 n, .slice none 0 0] 24) = w3 at *
  replace hB3 := Lib.hid hB3; replace hb3 := Lib.hid hb3; replace hb7 := Lib.hid hb7
  go_loopw [5] (fun v5 wr => ∃ (i c' : Nat) (A' : Option Addr), v5 = .int .i64 i ∧ i ≤ nn ∧ Hid (Below w.heap.size w wr) ∧ Hid (Blk wr w.heap.size 24 (mC 0 0 (.slice none 0 0))) ∧ Hid (Blk wr (w.heap.size + 1) 24 (mC n n (.slice A' i c'))) ∧ Hid (wr.ownsRow w.heap.size 5 1 (.slice A' i c') i ((cellsTo n oneC i).map B8))) (fun v5 _ => nn - (intOf v5).toNat)
  case atStart => exact ⟨0, 0, none, rfl, by omega, hB3, hb3, hb7, World.ownsRow_nil _ _ _ 1⟩
  case round =>
    obtain ⟨i, c', A', rfl, hin, HB, Hb6, Hb7, HO⟩ := hrel
    by_cases hlt : i < nn
    · have hlt' : (i : Int) < nn := by omega
      have hn0 := Hn0.out i hlt
      have hne : ((n : Int) == 0) = false := by rw [beq_eq_false_iff_ne]; omega
      have hne2 : (n : Int) ≠ 0 := by omega
      have hq : (i : Int) / (n : Int) = ((i / n : Nat) : Int) := (Int.natCast_ediv i n).symm
      have hr : (i : Int) % (n : Int) = ((i % n : Nat) : Int) := (Int.natCast_emod i n).symm
      have Hstep := Lib.hid (cellsTo_one n oneC i)
      have Hc : Hid (oneC (i / n) (i % n) = if i / n = i % n then 1 else 0) := rfl
      have q2 : wr.cell? ⟨w.heap.size + 1, 2, none⟩ = some (.slice A' i c') := Hb7.out.cell 2
      have hgw : w.heap.size ≤ wr.heap.size := HB.out.size
      have hqb : i / n < 65025 := Nat.lt_of_le_of_lt (Nat.div_le_self _ _) (by omega)
      have hrb : i % n < 65025 := Nat.lt_of_le_of_lt (Nat.mod_le _ _) (by omega)
      generalize i / n = qq at *
      generalize i % n = rr at *
      by_cases hqr : qq = rr
      · skip
        rw [if_pos hqr] at Hc
        have hqe : ((qq : Int) == (rr : Int)) = true := by rw [beq_iff_eq]; omega
        go_wp2_with fail
        go_quiet (fail)
        have HOd : Hid ((wr.drewN nq).ownsRow w.heap.size 5 1 (.slice A' i c') i ((cellsTo n oneC i).map B8)) := HO.out
        have Hb7d : Hid (Blk (wr.drewN nq) (w.heap.size + 1) 24 (mC n n (.slice A' i c'))) := Hb7.out
        have Hb6d : Hid (Blk (wr.drewN nq) w.heap.size 24 (mC 0 0 (.slice none 0 0))) := Hb6.out
        have HBd : Hid (Below w.heap.size w (wr.drewN nq)) := ⟨HB.out.os, HB.out.tape, HB.out.output, HB.out.size, HB.out.block⟩
        have q2d : (wr.drewN nq).cell? ⟨w.heap.size + 1, 2, none⟩ = some (.slice A' i c') := Hb7d.out.cell 2
        have hgd : w.heap.size ≤ (wr.drewN nq).heap.size := hgw
        clear HO Hb7 Hb6 HB q2 hgw hqe hqr
        generalize wr.drewN nq = wd at *
        go_wp2_with (at_builtin; refine wpList_append_any _ rfl (.tmp 32) (.tmp 34) 22 rfl w.heap.size 5 i0 (.int .u8 0) 1 1 Try.underlying22 hi.out hz0.out hz1.out hz2.out rfl (by omega) A' i c' _ rfl (HOd.out.alloc _) (wd.heap.size + 1) (some ⟨wd.heap.size, 0, none⟩) 1 1 [.int .u8 1] rfl (reads_one _ _ _) (one_one rfl) (by unfold maxLen; omega) (by omega) (Nat.le_trans hgd (by simp)) ?_; intro A3 c3 w4 ho4 hg4 _hs4; have HB4 := Lib.hid (below_app (HBd.out.alloc hgd (.cells #[.int .u8 1] 5)) hg4 (HOd.out.alloc _) (Nat.le_trans hgd (by simp))); have hb4 := Lib.hid (blk_grown (Hb7d.out.alloc _) (HOd.out.alloc _) hg4); have hb6 := Lib.hid (blk_grown (Hb6d.out.alloc _) (HOd.out.alloc _) hg4); have z2 : w4.cell? ⟨w.heap.size + 1, 2, none⟩ = some (.slice A' i c') := hb4.out.cell 2; have zf := hb4.out.frozen 2; replace ho4 := Lib.hid ho4; clear hg4 _hs4)
        go_roundw
        case rel =>
          refine ⟨i + 1, c3, A3, by go_num, by omega, HB4.out.setCell (p := ⟨w.heap.size + 1, 2, none⟩) (Nat.le_succ _) _, hb6.out.far (p := ⟨w.heap.size + 1, 2, none⟩) (Nat.ne_of_lt (Nat.lt_succ_self _)) _, hb4.out.set_ 2 (.slice A3 (i + 1) c3), ?_⟩
          rw [Hstep.out, Hc.out, List.map_append]
          exact own_setM (j := 2) ho4.out hb4.out (.slice A3 (i + 1) c3)
        case measure => simp [intOf]; omega
      · skip
        rw [if_neg hqr] at Hc
        have hqe : ((qq : Int) == (rr : Int)) = false := by rw [beq_eq_false_iff_ne]; omega
        go_wp2_with fail
        go_quiet (fail)
        have HOd : Hid ((wr.drewN nq).ownsRow w.heap.size 5 1 (.slice A' i c') i ((cellsTo n oneC i).map B8)) := HO.out
        have Hb7d : Hid (Blk (wr.drewN nq) (w.heap.size + 1) 24 (mC n n (.slice A' i c'))) := Hb7.out
        have Hb6d : Hid (Blk (wr.drewN nq) w.heap.size 24 (mC 0 0 (.slice none 0 0))) := Hb6.out
        have HBd : Hid (Below w.heap.size w (wr.drewN nq)) := ⟨HB.out.os, HB.out.tape, HB.out.output, HB.out.size, HB.out.block⟩
        have q2d : (wr.drewN nq).cell? ⟨w.heap.size + 1, 2, none⟩ = some (.slice A' i c') := Hb7d.out.cell 2
        have hgd : w.heap.size ≤ (wr.drewN nq).heap.size := hgw
        clear HO Hb7 Hb6 HB q2 hgw hqe hqr
        generalize wr.drewN nq = wd at *
        go_wp2_with (at_builtin; refine wpList_append_any _ rfl (.tmp 32) (.tmp 34) 22 rfl w.heap.size 5 i0 (.int .u8 0) 1 1 Try.underlying22 hi.out hz0.out hz1.out hz2.out rfl (by omega) A' i c' _ rfl (HOd.out.alloc _) (wd.heap.size + 1) (some ⟨wd.heap.size, 0, none⟩) 1 1 [.int .u8 0] rfl (reads_one _ _ _) (one_one rfl) (by unfold maxLen; omega) (by omega) (Nat.le_trans hgd (by simp)) ?_; intro A3 c3 w4 ho4 hg4 _hs4; have HB4 := Lib.hid (below_app (HBd.out.alloc hgd (.cells #[.int .u8 0] 5)) hg4 (HOd.out.alloc _) (Nat.le_trans hgd (by simp))); have hb4 := Lib.hid (blk_grown (Hb7d.out.alloc _) (HOd.out.alloc _) hg4); have hb6 := Lib.hid (blk_grown (Hb6d.out.alloc _) (HOd.out.alloc _) hg4); have z2 : w4.cell? ⟨w.heap.size + 1, 2, none⟩ = some (.slice A' i c') := hb4.out.cell 2; have zf := hb4.out.frozen 2; replace ho4 := Lib.hid ho4; clear hg4 _hs4)
        go_roundw
        case rel =>
          refine ⟨i + 1, c3, A3, by go_num, by omega, HB4.out.setCell (p := ⟨w.heap.size + 1, 2, none⟩) (Nat.le_succ _) _, hb6.out.far (p := ⟨w.heap.size + 1, 2, none⟩) (Nat.ne_of_lt (Nat.lt_succ_self _)) _, hb4.out.set_ 2 (.slice A3 (i + 1) c3), ?_⟩
          rw [Hstep.out, Hc.out, List.map_append]
          exact own_setM (j := 2) ho4.out hb4.out (.slice A3 (i + 1) c3)
        case measure => simp [intOf]; omega
    · have hir2 : i = nn := by omega
      subst hir2
      go_wp2_with (first
        | (refine wpList_load_row rfl 24 _ rfl (w.heap.size + 1) rfl 24 (mC n n (.slice A' i c')) (0, 0) _ Hb7.out Try.underlying24 rfl info_ms ?_)
        | (refine wpList_store_row rfl 24 _ _ rfl w.heap.size (mC n n (.slice A' i c')) rfl rfl 24 (mC 0 0 (.slice none 0 0)) Hb6.out info_ms rfl (mC_one _ _ _ _ _) ?_))
      exact bodyPost_ret (results_cell_int rfl _ _ w.heap.size (mC n n (.slice A' i c')) (.int .i64 0) rfl rfl (run_loadVar_row _ w.heap.size 24 _ (mC n n (.slice A' i c')) (0, 0) _ (Hb6.out.row _) Try.underlying24 rfl info_ms)) rfl ⟨A', c', rfl, own_setRowM HO.out Hb6.out _, below_row HB.out (Nat.le_refl _) _⟩

set_option maxRecDepth 100000 in
set_option maxHeartbeats 2000000 in
theorem refCauchy_in (k m : Nat) (w : World) (hkm : k + m ≤ 255) : Calls Try.prog 21 #[.int .i64 k, .int .i64 m] w (MRet w m k (cellsTo k (cauC k) (m * k)) 0) := by
  obtain ⟨i0, hi, hz0, hz1, hz2⟩ := info_parts info_u8
  replace hi := Lib.hid hi; replace hz0 := Lib.hid hz0; replace hz1 := Lib.hid hz1; replace hz2 := Lib.hid hz2
  have hz := (zero_of_info info_m).1
  have hnn := rc_le (show m ≤ 255 by omega) (show k ≤ 255 by omega)
  have hl := cellsTo_len k (cauC k) (m * k)
  unfold MRet
  rw [hl]
  clear hl
  have hsum : (k : Int) + (m : Int) ≤ 255 := by omega
  go_enter Try.func21, Try.ntmps21
  go_wp2_with fail
  have hB3 : Below w.heap.size w ((w.alloc (.cells #[.int .i64 0, .int .i64 0, .slice none 0 0] 24)).alloc (.cells #[.int .i64 m, .int .i64 k, .slice none 0 0] 24)) := ((Below.refl _ _).alloc (Nat.le_refl _) _).alloc (by simp) _
  have hb3 : Blk ((w.alloc (.cells #[.int .i64 0, .int .i64 0, .slice none 0 0] 24)).alloc (.cells #[.int .i64 m, .int .i64 k, .slice none 0 0] 24)) w.heap.size 24 (mC 0 0 (.slice none 0 0)) := (Blk.new w _ _).alloc _
  have hb7 : Blk ((w.alloc (.cells #[.int .i64 0, .int .i64 0, .slice none 0 0] 24)).alloc (.cells #[.int .i64 m, .int .i64 k, .slice none 0 0] 24)) (w.heap.size + 1) 24 (mC m k (.slice none 0 0)) := by
    have h := Blk.new (w.alloc (.cells #[.int .i64 0, .int .i64 0, .slice none 0 0] 24)) 24 (mC m k (.slice none 0 0))
    simpa [mC] using h
  generalize (w.alloc (.cells #[.int .i64 0, .int .i64 0, .slice none 0 0] 24)).alloc (.cells #[.int .i64 m, .int .i64 k, .slice none 0 0] 24) = w3 at *
  replace hB3 := Lib.hid hB3; replace hb3 := Lib.hid hb3; replace hb7 := Lib.hid hb7
  go_loopw [7] (fun v7 wr => ∃ (i c' : Nat) (A' : Option Addr), v7 = .int .i64 i ∧ i ≤ m ∧ Hid (Below w.heap.size w wr) ∧ Hid (Blk wr w.heap.size 24 (mC 0 0 (.slice none 0 0))) ∧ Hid (Blk wr (w.heap.size + 1) 24 (mC m k (.slice A' (i * k) c'))) ∧ Hid (wr.ownsRow w.heap.size 5 1 (.slice A' (i * k) c') (i * k) ((cellsTo k (cauC k) (i * k)).map B8))) (fun v7 _ => m - (intOf v7).toNat)
  case atStart => exact ⟨0, 0, none, rfl, by omega, hB3, hb3, (by rw [Nat.zero_mul]; exact hb7), (by rw [Nat.zero_mul]; exact World.ownsRow_nil _ _ _ 1)⟩
  case round =>
    obtain ⟨i, c', A', rfl, hir, HB, Hb6, Hb7, HO⟩ := hrel
    by_cases hlt : i < m
    · have hlt' : (i : Int) < m := by omega
      go_wp2_with fail
      go_loopw [8] (fun v8 wr => ∃ (j c' : Nat) (A' : Option Addr), v8 = .int .i64 j ∧ j ≤ k ∧ Hid (Below w.heap.size w wr) ∧ Hid (Blk wr w.heap.size 24 (mC 0 0 (.slice none 0 0))) ∧ Hid (Blk wr (w.heap.size + 1) 24 (mC m k (.slice A' (i * k + j) c'))) ∧ Hid (wr.ownsRow w.heap.size 5 1 (.slice A' (i * k + j) c') (i * k + j) ((cellsTo k (cauC k) (i * k + j)).map B8))) (fun v8 _ => k - (intOf v8).toNat)
      case atStart => exact ⟨0, c', A', rfl, by omega, HB, Hb6, Hb7, HO⟩
      case round =>
        obtain ⟨j, c', A', rfl, hjc, HB, Hb6, Hb7, HO⟩ := hrel
        by_cases hjl : j < k
        · have hjl' : (j : Int) < k := by omega
          have hm : i * k + j < 65025 := by
            have h1 : (i + 1) * k ≤ m * k := Nat.mul_le_mul_right _ hlt
            rw [Nat.succ_mul] at h1; omega
          have Hstep := Lib.hid (cellsTo_step k (cauC k) i j hjl)
          have hx : (k + i) ^^^ j < 256 := Nat.xor_lt_two_pow (n := 8) (by omega) (by omega)
          have hxo : bits .xor .u8 ((k : Int) + (i : Int)) (j : Int) = (((k + i) ^^^ j : Nat) : Int) := by
            rw [← Int.natCast_add]; exact u8_xor_nat (k + i) j (by omega) (by omega)
          have I := fun W => refInv_any ((k + i) ^^^ j) W hx
          have hv : Hid (((cauC k i j).toNat : Int) = ((Gfp.invV ((k + i) ^^^ j) : Nat) : Int)) := by
            unfold cauC Hid
            rw [fi_toNat, UInt8.toNat_ofNat', show ((k + i) ^^^ j) % 2 ^ 8 = (k + i) ^^^ j from Nat.mod_eq_of_lt hx]
          have hil := Gfp.invV_lt ((k + i) ^^^ j)
          generalize Gfp.e13 ((k + i) ^^^ j) = ee at *
          generalize Gfp.invV ((k + i) ^^^ j) = iv at *
          generalize (k + i) ^^^ j = x at *
          have HX : Hid (B8 (cauC k i j) = .int .u8 (iv : Int)) := by unfold B8; rw [hv.out]; rfl
          replace I := Lib.hid I
          obtain ⟨mm, hme⟩ : ∃ mm, mm = i * k + j := ⟨_, rfl⟩
          rw [← hme] at Hb7 HO hm Hstep
          have Hme := Lib.hid hme
          clear hme
          have q2 : wr.cell? ⟨w.heap.size + 1, 2, none⟩ = some (.slice A' mm c') := Hb7.out.cell 2
          have hgw : w.heap.size ≤ wr.heap.size := HB.out.size
          go_wp2_with fail
          refine (I.out _).mono ?_; rintro e w' ⟨rfl, rfl⟩
          go_wp2_with (at_builtin; refine wpList_append_any _ rfl (.tmp 57) (.tmp 59) 22 rfl w.heap.size 5 i0 (.int .u8 0) 1 1 Try.underlying22 hi.out hz0.out hz1.out hz2.out rfl (by omega) A' mm c' _ rfl (HO.out.alloc _) (wr.heap.size + 1) (some ⟨wr.heap.size, 0, none⟩) 1 1 [.int .u8 (iv : Int)] rfl (reads_one _ _ _) (one_one rfl) (by unfold maxLen; omega) (by omega) (Nat.le_trans hgw (by simp)) ?_; intro A3 c3 w4 ho4 hg4 _hs4; have HB4 := Lib.hid (below_app (HB.out.alloc hgw (.cells #[.int .u8 (iv : Int)] 5)) hg4 (HO.out.alloc _) (Nat.le_trans hgw (by simp))); have hb4 := Lib.hid (blk_grown (Hb7.out.alloc _) (HO.out.alloc _) hg4); have hb6 := Lib.hid (blk_grown (Hb6.out.alloc _) (HO.out.alloc _) hg4); have z2 : w4.cell? ⟨w.heap.size + 1, 2, none⟩ = some (.slice A' mm c') := hb4.out.cell 2; have zf := hb4.out.frozen 2; replace ho4 := Lib.hid ho4; clear hg4 _hs4)
          go_roundw
          case rel =>
            refine ⟨j + 1, c3, A3, by go_num, by omega, HB4.out.setCell (p := ⟨w.heap.size + 1, 2, none⟩) (Nat.le_succ _) _, hb6.out.far (p := ⟨w.heap.size + 1, 2, none⟩) (Nat.ne_of_lt (Nat.lt_succ_self _)) _, ?_, ?_⟩
            · rw [show i * k + (j + 1) = mm + 1 by rw [Hme.out]; omega]
              exact hb4.out.set_ 2 (.slice A3 (mm + 1) c3)
            · rw [show i * k + (j + 1) = mm + 1 by rw [Hme.out]; omega, Hstep.out, List.map_append]
              have h := own_setM (j := 2) ho4.out hb4.out (.slice A3 (mm + 1) c3)
              rw [← HX.out] at h
              exact h
          case measure => simp [intOf]; omega
        · have hjc2 : j = k := by omega
          subst hjc2
          go_wp2_with fail
          go_roundw
          case rel => exact ⟨i + 1, c', A', by go_num, by omega, HB, Hb6, (by rw [Nat.succ_mul]; exact Hb7), (by rw [Nat.succ_mul]; exact HO)⟩
          case measure => simp [intOf]; omega
    · have hir2 : i = m := by omega
      subst hir2
      go_wp2_with (first
        | (refine wpList_load_row rfl 24 _ rfl (w.heap.size + 1) rfl 24 (mC i k (.slice A' (i * k) c')) (0, 0) _ Hb7.out Try.underlying24 rfl info_ms ?_)
        | (refine wpList_store_row rfl 24 _ _ rfl w.heap.size (mC i k (.slice A' (i * k) c')) rfl rfl 24 (mC 0 0 (.slice none 0 0)) Hb6.out info_ms rfl (mC_one _ _ _ _ _) ?_))
      exact bodyPost_ret (results_cell_int rfl _ _ w.heap.size (mC i k (.slice A' (i * k) c')) (.int .i64 0) rfl rfl (run_loadVar_row _ w.heap.size 24 _ (mC i k (.slice A' (i * k) c')) (0, 0) _ (Hb6.out.row _) Try.underlying24 rfl info_ms)) rfl ⟨A', c', rfl, own_setRowM HO.out Hb6.out _, below_row HB.out (Nat.le_refl _) _⟩
end Go.Proofs.Ytbokbndphpdgoaa
