/-
  The document's Rank, walked: rows taken one by one.
-/
import Derived.Test.YtbokbndphpdgoaaMatfi
import Derived.Test.YtbokbndphpdgoaaMativ2
namespace Go.Proofs.Ytbokbndphpdgoaa
set_option linter.unusedSimpArgs false
set_option linter.unusedVariables false
open Go.RowKit

/-- q times the row b added to the first j of the row r -/
def adR (j : Nat) (q : UInt8) (b r : Nat → UInt8) (t : Nat) : UInt8 := if t < j then r t ^^^ fm q (b t) else r t

set_option maxRecDepth 100000 in
set_option maxHeartbeats 16000000 in
theorem refRank_in (R C : Nat) (A : Option Addr) (n k : Nat) (bs : List UInt8) (w : World) (hR : R ≤ 255) (hC : C ≤ 255) (hn : n = R * C) (hnk : n ≤ k) (h : Reads w w.heap.size 1 A n (bs.map B8)) :
    Calls Try.prog 30 #[.agg #[.int .i64 R, .int .i64 C, .slice A n k]] w fun e w' => e = .returned (.tuple #[.int .i64 ((Lin.rank R C (cellAt bs C) : Nat) : Int), .int .i64 0]) ∧ Below w.heap.size w w' := by
  have M1 := fun W => Lib.hid (refMay_any R C A n k W)
  unfold mC at M1
  have hm1 : Matp.may (R : Int) (C : Int) n = true := by
    unfold Matp.may; rw [hn, Int.natCast_mul]; simp; omega
  rw [hm1] at M1
  have hbl : bs.length = R * C := by have := h.len; omega
  have RR := Lib.hid (fun (i : Nat) (W : World) (hi : i < R) (hB : Below w.heap.size w W) => show Reads W w.heap.size 1 (cutA A k (i * C) 1) C ((rowF C (cellAt bs C i)).map B8) by
    have := row_reads (i := i) (h.below hB) hn hi hnk
    rw [rowC_at bs R C i hbl hi] at this
    exact this)
  have OFF := Lib.hid (fun (i : Nat) (hi : i < R) => show i * C + C ≤ n by
    have hle : (i + 1) * C ≤ R * C := Nat.mul_le_mul_right _ hi
    rw [Nat.succ_mul] at hle
    omega)
  have FI := Lib.hid (fun (W : World) A c B f h hC => first_any A C c B f W h hC)
  have DV := Lib.hid (fun W a b => refDiv8 a b W)
  have RMu := Lib.hid (fun W (a b : UInt8) => refMul8m a b W)
  have hnb : n ≤ 65025 := by rw [hn]; exact rc_le hR hC
  obtain ⟨M, hM⟩ : ∃ M, cellAt bs C = M := ⟨_, rfl⟩
  rw [hM] at RR
  rw [hM]
  obtain ⟨i0, hi, hz0, hz1, hz2⟩ := info_parts info_u8
  replace hi := Lib.hid hi; replace hz0 := Lib.hid hz0; replace hz1 := Lib.hid hz1; replace hz2 := Lib.hid hz2
  obtain ⟨i1, hi_, hy0, hy1, hy2⟩ := info_parts info_row
  replace hi_ := Lib.hid hi_; replace hy0 := Lib.hid hy0; replace hy1 := Lib.hid hy1; replace hy2 := Lib.hid hy2
  have HNK := Lib.hid hnk
  clear hm1 hn h hbl hM hnk
  go_enter Try.func30, Try.ntmps30
  go_wp2_with fail
  have hb2 : Blk (w.alloc (.cells #[.int .i64 R, .int .i64 C, .slice A n k] 24)) w.heap.size 24 #[.int .i64 R, .int .i64 C, .slice A n k] := Blk.new _ _ _
  have hB0 : Below w.heap.size w (w.alloc (.cells #[.int .i64 R, .int .i64 C, .slice A n k] 24)) := (Below.refl _ _).alloc (Nat.le_refl _) _
  generalize w.alloc (.cells #[.int .i64 R, .int .i64 C, .slice A n k] 24) = W0 at *
  have KB : Hid (∀ W, Below W0.heap.size W0 W → Below w.heap.size w W) := fun W hW => hB0.trans (hW.mono hB0.size)
  have C2 : Hid (∀ W, Below W0.heap.size W0 W → W.cell? ⟨w.heap.size, 0, none⟩ = some (.int .i64 R) ∧ W.cell? ⟨w.heap.size, 1, none⟩ = some (.int .i64 C) ∧ W.cell? ⟨w.heap.size, 2, none⟩ = some (.slice A n k)) := fun W hW => ⟨(hb2.below hW hb2.lt).cell 0, (hb2.below hW hb2.lt).cell 1, (hb2.below hW hb2.lt).cell 2⟩
  have hwW : w.heap.size ≤ W0.heap.size := hB0.size
  clear hb2 hB0
  refine (M1 _).out.mono ?_; rintro e w1 ⟨rfl, hB1⟩
  have hw1 : W0.heap.size ≤ w1.heap.size := hB1.size
  replace hB1 := Lib.hid hB1
  go_wp2_with fail
  go_loopw [4, 5] (fun v4 v5 wr => ∃ (i m c4 : Nat) (A4 : Option Addr) (g : Nat → Nat × Nat) (T : Nat → Nat → UInt8), v4 = .slice A4 m c4 ∧ v5 = .int .i64 i ∧ i ≤ R ∧ m ≤ i ∧ Hid (Below W0.heap.size W0 wr) ∧ Hid (RM wr W0.heap.size A4 m c4 C g T) ∧ Hid (Lin.Tk R C M i m T)) (fun _ v5 _ => R - (intOf v5).toNat)
  case atStart => exact ⟨0, 0, 0, none, fun _ => (0, 0), M, rfl, rfl, by omega, by omega, hB1, RM.nil _ _ _ _ _ hw1, Lin.Tk.start R C M M⟩
  case round =>
    clear hB1 hw1 w1
    obtain ⟨i, m, c4, A4, g, T, rfl, rfl, hiR, hmi, HB, HM, HT⟩ := hrel
    obtain ⟨x0, x1, x2⟩ := C2.out wr HB.out
    by_cases hlt : i < R
    · have hlt' : (i : Int) < (R : Int) := by omega
      have hoff := OFF.out i hlt
      have RRi := Lib.hid (RR.out i wr hlt (KB.out _ HB.out))
      obtain ⟨p, hp⟩ : ∃ p, p = i * C := ⟨_, rfl⟩
      have hq : (i + 1) * C = p + C := by rw [hp, Nat.succ_mul]
      have hm1 : (i : Int) * (C : Int) = (p : Int) := by rw [hp, Int.natCast_mul]
      have hm2 : ((i : Int) + 1) * (C : Int) = ((p + C : Nat) : Int) := by rw [← hq, Int.natCast_mul]; rfl
      obtain ⟨q, hqq⟩ : ∃ q, q = p + C := ⟨_, rfl⟩
      rw [← hqq] at hm2
      rw [← hp] at hoff RRi
      have hsl := run_cut_lh (P := Try.prog) 22 5 i0 1 Try.underlying22 hi.out hz1.out A n k p q .i64 .i64 (by omega) (by have := HNK.out; omega)
      have hqC : q - p = C := by omega
      rw [hqC] at hsl
      have hpb : q ≤ 65025 := by omega
      have hpp : p ≤ 65025 := by omega
      have hc1 : 0 + C ≤ maxLen := by unfold maxLen; omega
      have hc2 : (0 + C) * 1 ≤ 140737488355328 := by omega
      have hwr : w.heap.size ≤ wr.heap.size := Nat.le_trans hwW HB.out.size
      obtain ⟨y0, y1, y2⟩ := C2.out (wr.alloc (.cells #[] 5)) (HB.out.alloc HB.out.size _)
      generalize cutA A k p 1 = Ac at *
      clear hp hq hqq hqC hoff
      go_wp2_with (at_builtin; refine wpList_append_any _ rfl (.tmp 21) (.tmp 33) 22 rfl wr.heap.size 5 i0 (.int .u8 0) 1 1 Try.underlying22 hi.out hz0.out hz1.out hz2.out rfl (by omega) (some ⟨wr.heap.size, 0, none⟩) 0 0 [] rfl (own_empty wr _ _ (Nat.le_refl _)) w.heap.size Ac C _ _ rfl (RRi.out.alloc hwr _) (row_one RRi.out) hc1 hc2 (by simp) ?_; intro A6 c6 w4 ho4 hgq _hsq; have hB4 : Below wr.heap.size wr w4 := below_app (below_alloc (Below.refl _ _) _) hgq (own_empty wr _ _ (Nat.le_refl _)) (below_alloc (Below.refl _ wr) _).size; replace ho4 := Lib.hid ho4; replace hB4 := Lib.hid hB4; clear hgq _hsq)
      clear x0 x1 x2 y0 y1 y2 RRi hsl hm1 hm2
      rw [List.nil_append, Nat.zero_add] at ho4
      have HM4 := Lib.hid (HM.out.below hB4.out)
      generalize hwA : wr = wA at *
      replace hwA := Lib.hid hwA
      try simp only [Nat.zero_add]
      go_wp2_with fail
      go_loopw [7] (fun v7 wr => ∃ (kk : Nat) (r : Nat → UInt8), v7 = .int .i64 kk ∧ kk ≤ m ∧ Hid (Below wA.heap.size wA wr) ∧ Hid (wr.ownsRow wA.heap.size 5 1 (.slice A6 C c6) C ((rowF C r).map B8)) ∧ Hid (Lin.Rd C M i T kk r)) (fun v7 _ => m - (intOf v7).toNat)
      case atStart => exact ⟨0, M i, rfl, by omega, hB4, ho4, Lin.Rd.start C M i T⟩
      case round =>
        clear hB4 ho4 HM4
        obtain ⟨kk, r, rfl, hkm, HBr, HO, HR⟩ := hrel
        have HMr := Lib.hid (HM.out.below HBr.out)
        have HBw := Lib.hid (below_then HB.out HBr.out)
        by_cases hkl : kk < m
        · have hkl' : (kk : Int) < (m : Int) := by omega
          obtain ⟨gA, hgA, hsl, -, -, -⟩ := HMr.out.slot (by omega)
          subst hgA
          have c1 := hsl kk hkl
          unfold rowV at c1
          have hld := HT.out.lead kk hkl
          have FIk2 := FI.out wr (some ⟨(g kk).1, 0, none⟩) (g kk).2 wr.heap.size (T kk) (Reads.of_own (HMr.out.row kk hkl)) (by omega)
          have HST := Lib.hid (HR.out.step HT.out hkl)
          obtain ⟨l, hl⟩ : ∃ l, Lin.ld C (T kk) = l := ⟨_, rfl⟩
          rw [hl] at hld HST
          rw [hl] at FIk2
          replace FIk2 := Lib.hid FIk2
          replace hl := Lib.hid hl
          have c2 := HMr.out.at_ hkl hld
          obtain ⟨gr, hA6⟩ : ∃ gr, A6 = some ⟨gr, 0, none⟩ := by
            rcases HO.out.2 with ⟨_, h0⟩ | ⟨g', cap, cur, hv, _⟩
            · omega
            · injection hv with hA; exact ⟨g', hA⟩
          subst hA6
          have c3 : wr.cell? ⟨gr, l, none⟩ = some (.int .u8 ((r l).toNat : Int)) := by
            rw [HO.out.cellAt l (by omega), List.getElem?_map, rowF_get _ _ _ hld]; rfl
          have DVk := DV.out
          have DVk := Lib.hid (fun W => DVk W (r l) (T kk l))
          have u1 := (r l).toNat_lt
          have u2 := (T kk l).toNat_lt
          obtain ⟨qq, hqq⟩ : ∃ qq, Hid (fm (r l) (fi (T kk l)) = qq) := ⟨_, rfl⟩
          rw [hqq.out] at DVk HST
          have u3 := qq.toNat_lt
          have hlC : (l : Int) < (C : Int) := by omega
          generalize (r l).toNat = rl at *
          generalize (T kk l).toNat = tl at *
          clear hsl
          go_wp2_with fail
          refine FIk2.out.mono ?_; rintro e w' ⟨rfl, rfl⟩
          clear FIk2
          go_wp2_with fail
          refine region_E 17 (fun W => W.cell? ⟨gA, kk, none⟩ = some (.slice (some ⟨(g kk).1, 0, none⟩) C (g kk).2) ∧ W.cell? ⟨(g kk).1, l, none⟩ = some (.int .u8 (tl : Int)) ∧ W.cell? ⟨gr, l, none⟩ = some (.int .u8 (rl : Int))) (by kernel_rfl) ⟨c1, c2, c3⟩ (fun hHeld => ?_)
          refine took 0 (v := ?_) rfl (by kernel_rfl) (by kernel_rfl) (by kernel_rfl) (by kernel_rfl) (fun _ _ _ h => h) (by rfl) (by assumption) ?_ ?_
          rotate_left
          · (intro W hSw; (try dsimp only at hSw); go_simp; first | done | with_reducible rfl)
          try simp only [Act.put, List.setIfInBounds_toArray, List.set_cons_zero, List.set_cons_succ]
          refine took 1 (v := ?_) rfl (by kernel_rfl) (by kernel_rfl) (by kernel_rfl) (by kernel_rfl) (fun _ _ _ h => h) (by rfl) (by assumption) ?_ ?_
          rotate_left
          · (intro W hSw; (try dsimp only at hSw); go_simp; first | done | with_reducible rfl)
          try simp only [Act.put, List.setIfInBounds_toArray, List.set_cons_zero, List.set_cons_succ]
          refine took 2 (v := ?_) rfl (by kernel_rfl) (by kernel_rfl) (by kernel_rfl) (by kernel_rfl) (fun _ _ _ h => h) (by rfl) (by assumption) ?_ ?_
          rotate_left
          · (intro W hSw; (try dsimp only at hSw); go_simp; first | done | with_reducible rfl)
          try simp only [Act.put, List.setIfInBounds_toArray, List.set_cons_zero, List.set_cons_succ]
          refine took 3 (v := ?_) rfl (by kernel_rfl) (by kernel_rfl) (by kernel_rfl) (by kernel_rfl) (fun _ _ _ h => h) (by rfl) (by assumption) ?_ ?_
          rotate_left
          · (intro W hSw; (try dsimp only at hSw); go_simp; first | done | with_reducible rfl)
          try simp only [Act.put, List.setIfInBounds_toArray, List.set_cons_zero, List.set_cons_succ]
          refine took 4 (v := ?_) rfl (by kernel_rfl) (by kernel_rfl) (by kernel_rfl) (by kernel_rfl) (fun _ _ _ h => h) (by rfl) (by assumption) ?_ ?_
          rotate_left
          · (intro W hSw; (try dsimp only at hSw); go_simp; first | done | with_reducible rfl)
          try simp only [Act.put, List.setIfInBounds_toArray, List.set_cons_zero, List.set_cons_succ]
          refine took 5 (v := ?_) rfl (by kernel_rfl) (by kernel_rfl) (by kernel_rfl) (by kernel_rfl) (fun _ _ _ h => h) (by rfl) (by assumption) ?_ ?_
          rotate_left
          · (intro W hSw; (try dsimp only at hSw); go_simp; first | done | with_reducible rfl)
          try simp only [Act.put, List.setIfInBounds_toArray, List.set_cons_zero, List.set_cons_succ]
          refine took 6 (v := ?_) rfl (by kernel_rfl) (by kernel_rfl) (by kernel_rfl) (by kernel_rfl) (fun _ _ _ h => h) (by rfl) (by assumption) ?_ ?_
          rotate_left
          · (intro W hSw; (try dsimp only at hSw); go_simp; first | done | with_reducible rfl)
          try simp only [Act.put, List.setIfInBounds_toArray, List.set_cons_zero, List.set_cons_succ]
          refine took 7 (v := ?_) rfl (by kernel_rfl) (by kernel_rfl) (by kernel_rfl) (by kernel_rfl) (fun _ _ _ h => h) (by rfl) (by assumption) ?_ ?_
          rotate_left
          · (intro W hSw; (try dsimp only at hSw); go_simp; first | done | with_reducible rfl)
          try simp only [Act.put, List.setIfInBounds_toArray, List.set_cons_zero, List.set_cons_succ]
          refine took 8 (v := ?_) rfl (by kernel_rfl) (by kernel_rfl) (by kernel_rfl) (by kernel_rfl) (fun _ _ _ h => h) (by rfl) (by assumption) ?_ ?_
          rotate_left
          · (intro W hSw; (try dsimp only at hSw); go_simp; first | done | with_reducible rfl)
          try simp only [Act.put, List.setIfInBounds_toArray, List.set_cons_zero, List.set_cons_succ]
          refine took 9 (v := ?_) rfl (by kernel_rfl) (by kernel_rfl) (by kernel_rfl) (by kernel_rfl) (fun _ _ _ h => h) (by rfl) (by assumption) ?_ ?_
          rotate_left
          · (intro W hSw; (try dsimp only at hSw); go_simp; first | done | with_reducible rfl)
          try simp only [Act.put, List.setIfInBounds_toArray, List.set_cons_zero, List.set_cons_succ]
          refine took 10 (v := ?_) rfl (by kernel_rfl) (by kernel_rfl) (by kernel_rfl) (by kernel_rfl) (fun _ _ _ h => h) (by rfl) (by assumption) ?_ ?_
          rotate_left
          · (intro W hSw; (try dsimp only at hSw); go_simp; first | done | with_reducible rfl)
          try simp only [Act.put, List.setIfInBounds_toArray, List.set_cons_zero, List.set_cons_succ]
          refine carried 11 rfl (by kernel_rfl) (by rfl) (fun K hK => ?_)
          go_simp
          (go_at_call 46; ((with_reducible refine (DVk.out _).mono ?_); rintro e w' ⟨rfl, rfl⟩))
          refine hK.out _ _ (hHeld) (fun hHeld => ?_)
          clear hK K
          try simp only [Act.put, List.setIfInBounds_toArray, List.set_cons_zero, List.set_cons_succ]
          refine took 12 (v := ?_) rfl (by kernel_rfl) (by kernel_rfl) (by kernel_rfl) (by kernel_rfl) (fun _ _ _ h => h) (by rfl) (by assumption) ?_ ?_
          rotate_left
          · (intro W hSw; (try dsimp only at hSw); go_simp; first | done | with_reducible rfl)
          try simp only [Act.put, List.setIfInBounds_toArray, List.set_cons_zero, List.set_cons_succ]
          refine took 13 (v := ?_) rfl (by kernel_rfl) (by kernel_rfl) (by kernel_rfl) (by kernel_rfl) (fun _ _ _ h => h) (by rfl) (by assumption) ?_ ?_
          rotate_left
          · (intro W hSw; (try dsimp only at hSw); go_simp; first | done | with_reducible rfl)
          try simp only [Act.put, List.setIfInBounds_toArray, List.set_cons_zero, List.set_cons_succ]
          refine took 14 (v := ?_) rfl (by kernel_rfl) (by kernel_rfl) (by kernel_rfl) (by kernel_rfl) (fun _ _ _ h => h) (by rfl) (by assumption) ?_ ?_
          rotate_left
          · (intro W hSw; (try dsimp only at hSw); go_simp; first | done | with_reducible rfl)
          try simp only [Act.put, List.setIfInBounds_toArray, List.set_cons_zero, List.set_cons_succ]
          refine took 15 (v := ?_) rfl (by kernel_rfl) (by kernel_rfl) (by kernel_rfl) (by kernel_rfl) (fun _ _ _ h => h) (by rfl) (by assumption) ?_ ?_
          rotate_left
          · (intro W hSw; (try dsimp only at hSw); go_simp; first | done | with_reducible rfl)
          try simp only [Act.put, List.setIfInBounds_toArray, List.set_cons_zero, List.set_cons_succ]
          refine took 16 (v := ?_) rfl (by kernel_rfl) (by kernel_rfl) (by kernel_rfl) (by kernel_rfl) (fun _ _ _ h => h) (by rfl) (by assumption) ?_ ?_
          rotate_left
          · (intro W hSw; (try dsimp only at hSw); go_simp; first | done | with_reducible rfl)
          try simp only [Act.put, List.setIfInBounds_toArray, List.set_cons_zero, List.set_cons_succ]
          refine allDone (by kernel_rfl) ?_ _
          clear hHeld DVk c1 c2 c3
          replace HBr := Lib.hid HBr.out.drew
          replace HO := Lib.hid HO.out.drew
          generalize wr.drew = wd at *
          go_wp2_with fail
          go_loopw [11] (fun v11 wr => ∃ (j : Nat), v11 = .int .i64 j ∧ j ≤ C ∧ Hid (Below wA.heap.size wA wr) ∧ Hid (wr.ownsRow wA.heap.size 5 1 (.slice (some ⟨gr, 0, none⟩) C c6) C ((rowF C (adR j qq (T kk) r)).map B8))) (fun v11 _ => C - (intOf v11).toNat)
          case atStart => exact ⟨0, rfl, by omega, HBr, HO⟩
          case round =>
            clear HBr HO HBw HMr
            obtain ⟨j, rfl, hjC, HBr, HO⟩ := hrel
            by_cases hjl : j < C
            · have hjl' : (j : Int) < (C : Int) := by omega
              have HMr := Lib.hid (HM.out.below HBr.out)
              obtain ⟨gA', hgA', hsl, -, -, -⟩ := HMr.out.slot (by omega)
              obtain rfl : gA = gA' := by
                injection hgA' with h1
                injection h1 with h1
              have c1 := hsl kk hkl
              unfold rowV at c1
              have c2 := HMr.out.at_ hkl hjl
              have c3 : wr.cell? ⟨gr, j, none⟩ = some (.int .u8 ((adR j qq (T kk) r j).toNat : Int)) := by
                rw [HO.out.cellAt j (by omega), List.getElem?_map, rowF_get _ _ _ hjl]; rfl
              have f3 : wr.frozen? ⟨gr, j, none⟩ = false := HO.out.frozenAt j
              have hgrA : wA.heap.size ≤ gr := (HO.out.lt gr rfl).1
              obtain ⟨x, hx⟩ : ∃ x, Hid (adR j qq (T kk) r j = x) := ⟨_, rfl⟩
              rw [hx.out] at c3
              obtain ⟨y, hy⟩ : ∃ y, Hid (T kk j = y) := ⟨_, rfl⟩
              rw [hy.out] at c2
              have RMx := RMu.out
              have RMx := Lib.hid (fun W => RMx W qq y)
              have hxor := xor8m x (fm qq y)
              have v1 := x.toNat_lt
              have v2 := y.toNat_lt
              have v3 := (fm qq y).toNat_lt
              have HO2 := (HO.out.stored j (.int .u8 ((x ^^^ fm qq y).toNat : Int))).1
              rw [row_set C j _ _ hjl] at HO2
              replace HO2 := Lib.hid HO2.drew
              have HB2 := Lib.hid (HBr.out.setCell (p := ⟨gr, j, none⟩) hgrA (.int .u8 ((x ^^^ fm qq y).toNat : Int))).drew
              clear hsl hgA'
              generalize hv : x ^^^ fm qq y = v at *
              replace hv := Lib.hid hv
              generalize (fm qq y).toNat = fn at *
              go_wp2_with fail
              refine Reg2.region_E 16 (fun W => W.cell? ⟨gA, kk, none⟩ = some (.slice (some ⟨(g kk).1, 0, none⟩) C (g kk).2) ∧ W.cell? ⟨(g kk).1, j, none⟩ = some (.int .u8 (y.toNat : Int)) ∧ W.cell? ⟨gr, j, none⟩ = some (.int .u8 (x.toNat : Int))) (by kernel_rfl) ⟨c1, c2, c3⟩ (fun hHeld => ?_)
              refine Reg2.freed 0 (v := ?_) rfl (by kernel_rfl) (by kernel_rfl) (by kernel_rfl) (fun _ _ _ h => h) (by rfl) ?_ ?_
              rotate_left
              · (intro W; go_simp; first | done | with_reducible rfl)
              try simp only [Act.put, List.setIfInBounds_toArray, List.set_cons_zero, List.set_cons_succ]
              refine Reg2.freed 1 (v := ?_) rfl (by kernel_rfl) (by kernel_rfl) (by kernel_rfl) (fun _ _ _ h => h) (by rfl) ?_ ?_
              rotate_left
              · (intro W; go_simp; first | done | with_reducible rfl)
              try simp only [Act.put, List.setIfInBounds_toArray, List.set_cons_zero, List.set_cons_succ]
              refine Reg2.freed 2 (v := ?_) rfl (by kernel_rfl) (by kernel_rfl) (by kernel_rfl) (fun _ _ _ h => h) (by rfl) ?_ ?_
              rotate_left
              · (intro W; go_simp; first | done | with_reducible rfl)
              try simp only [Act.put, List.setIfInBounds_toArray, List.set_cons_zero, List.set_cons_succ]
              refine Reg2.freed 3 (v := ?_) rfl (by kernel_rfl) (by kernel_rfl) (by kernel_rfl) (fun _ _ _ h => h) (by rfl) ?_ ?_
              rotate_left
              · (intro W; go_simp; first | done | with_reducible rfl)
              try simp only [Act.put, List.setIfInBounds_toArray, List.set_cons_zero, List.set_cons_succ]
              refine Reg2.freed 4 (v := ?_) rfl (by kernel_rfl) (by kernel_rfl) (by kernel_rfl) (fun _ _ _ h => h) (by rfl) ?_ ?_
              rotate_left
              · (intro W; go_simp; first | done | with_reducible rfl)
              try simp only [Act.put, List.setIfInBounds_toArray, List.set_cons_zero, List.set_cons_succ]
              refine Reg2.took 5 (v := ?_) rfl (by kernel_rfl) (by kernel_rfl) (by kernel_rfl) (by kernel_rfl) (fun _ _ _ h => h) (by rfl) (by assumption) ?_ ?_
              rotate_left
              · (intro W hSw; (try dsimp only at hSw); go_simp; first | done | with_reducible rfl)
              try simp only [Act.put, List.setIfInBounds_toArray, List.set_cons_zero, List.set_cons_succ]
              refine Reg2.freed 6 (v := ?_) rfl (by kernel_rfl) (by kernel_rfl) (by kernel_rfl) (fun _ _ _ h => h) (by rfl) ?_ ?_
              rotate_left
              · (intro W; go_simp; first | done | with_reducible rfl)
              try simp only [Act.put, List.setIfInBounds_toArray, List.set_cons_zero, List.set_cons_succ]
              refine Reg2.freed 7 (v := ?_) rfl (by kernel_rfl) (by kernel_rfl) (by kernel_rfl) (fun _ _ _ h => h) (by rfl) ?_ ?_
              rotate_left
              · (intro W; go_simp; first | done | with_reducible rfl)
              try simp only [Act.put, List.setIfInBounds_toArray, List.set_cons_zero, List.set_cons_succ]
              refine Reg2.freed 8 (v := ?_) rfl (by kernel_rfl) (by kernel_rfl) (by kernel_rfl) (fun _ _ _ h => h) (by rfl) ?_ ?_
              rotate_left
              · (intro W; go_simp; first | done | with_reducible rfl)
              try simp only [Act.put, List.setIfInBounds_toArray, List.set_cons_zero, List.set_cons_succ]
              refine Reg2.freed 9 (v := ?_) rfl (by kernel_rfl) (by kernel_rfl) (by kernel_rfl) (fun _ _ _ h => h) (by rfl) ?_ ?_
              rotate_left
              · (intro W; go_simp; first | done | with_reducible rfl)
              try simp only [Act.put, List.setIfInBounds_toArray, List.set_cons_zero, List.set_cons_succ]
              refine Reg2.took 10 (v := ?_) rfl (by kernel_rfl) (by kernel_rfl) (by kernel_rfl) (by kernel_rfl) (fun _ _ _ h => h) (by rfl) (by assumption) ?_ ?_
              rotate_left
              · (intro W hSw; (try dsimp only at hSw); go_simp; first | done | with_reducible rfl)
              try simp only [Act.put, List.setIfInBounds_toArray, List.set_cons_zero, List.set_cons_succ]
              refine Reg2.freed 11 (v := ?_) rfl (by kernel_rfl) (by kernel_rfl) (by kernel_rfl) (fun _ _ _ h => h) (by rfl) ?_ ?_
              rotate_left
              · (intro W; go_simp; first | done | with_reducible rfl)
              try simp only [Act.put, List.setIfInBounds_toArray, List.set_cons_zero, List.set_cons_succ]
              refine Reg2.freed 12 (v := ?_) rfl (by kernel_rfl) (by kernel_rfl) (by kernel_rfl) (fun _ _ _ h => h) (by rfl) ?_ ?_
              rotate_left
              · (intro W; go_simp; first | done | with_reducible rfl)
              try simp only [Act.put, List.setIfInBounds_toArray, List.set_cons_zero, List.set_cons_succ]
              refine Reg2.took 13 (v := ?_) rfl (by kernel_rfl) (by kernel_rfl) (by kernel_rfl) (by kernel_rfl) (fun _ _ _ h => h) (by rfl) (by assumption) ?_ ?_
              rotate_left
              · (intro W hSw; (try dsimp only at hSw); go_simp; first | done | with_reducible rfl)
              try simp only [Act.put, List.setIfInBounds_toArray, List.set_cons_zero, List.set_cons_succ]
              refine Reg2.carried 14 rfl (by kernel_rfl) (by rfl) (fun K hK => ?_)
              go_simp
              (go_at_call 42; ((with_reducible refine (RMx.out _).mono ?_); rintro e w' ⟨rfl, rfl⟩))
              refine hK.out _ _ (hHeld) (fun hHeld => ?_)
              clear hK K
              try simp only [Act.put, List.setIfInBounds_toArray, List.set_cons_zero, List.set_cons_succ]
              refine Reg2.freed 15 (v := ?_) rfl (by kernel_rfl) (by kernel_rfl) (by kernel_rfl) (fun _ _ _ h => h) (by rfl) ?_ ?_
              rotate_left
              · (intro W; go_simp; first | done | with_reducible rfl)
              try simp only [Act.put, List.setIfInBounds_toArray, List.set_cons_zero, List.set_cons_succ]
              refine Reg2.lately 16 rfl (by kernel_rfl) (by decide) (by rfl) (fun K hK => ?_)
              go_simp
              refine hK.out _ _ ?_
              clear hK K
              try simp only [Act.put, List.setIfInBounds_toArray, List.set_cons_zero, List.set_cons_succ]
              refine Reg2.lately 17 rfl (by kernel_rfl) (by decide) (by rfl) (fun K hK => ?_)
              go_simp
              refine hK.out _ _ ?_
              clear hK K
              try simp only [Act.put, List.setIfInBounds_toArray, List.set_cons_zero, List.set_cons_succ]
              refine Reg2.allDone (by kernel_rfl) ?_ _
              clear hHeld c1 c2 c3 f3 RMx hxor
              go_wp2_with fail
              go_roundw
              case rel =>
                refine ⟨j + 1, by go_num, by omega, HB2, ?_⟩
                have e1 : rowF C (adR (j + 1) qq (T kk) r) = rowF C (fun t => if t = j then v else adR j qq (T kk) r t) := by
                  apply List.map_congr_left
                  intro t _
                  rw [← hv.out, ← hx.out, ← hy.out]
                  unfold adR
                  by_cases e : t = j
                  · subst e
                    rw [if_pos (by omega), if_pos rfl, if_neg (by omega)]
                  · by_cases e2 : t < j
                    · rw [if_pos (by omega), if_neg e, if_pos e2]
                    · rw [if_neg (by omega), if_neg e, if_neg e2]
                unfold Hid
                rw [e1]; exact HO2.out
              case measure => simp [intOf]; omega
            · have hge : (C : Int) ≤ (j : Int) := by omega
              have e1 : rowF C (adR j qq (T kk) r) = rowF C (fun t => r t ^^^ fm qq (T kk t)) := by
                apply List.map_congr_left
                intro t ht
                have := List.mem_range.1 ht
                unfold adR
                rw [if_pos (by omega)]
              rw [e1] at HO
              clear e1
              go_wp2_with fail
              go_roundw
              case rel => exact ⟨kk + 1, _, by go_num, by omega, HBr, HO, HST⟩
              case measure => simp [intOf]; omega
        · have hge : (m : Int) ≤ (kk : Int) := by omega
          have hkm2 : kk = m := by omega
          rw [hkm2] at HR
          replace hkm2 := Lib.hid hkm2
          have FIr := FI.out wr A6 c6 wr.heap.size r (Reads.of_own HO.out) (by omega)
          obtain ⟨L, hL⟩ : ∃ L, Hid (Lin.ld C r = L) := ⟨_, rfl⟩
          rw [hL.out] at FIr
          replace FIr := Lib.hid FIr
          by_cases hLC : L < C
          · have hLC' : (L : Int) < (C : Int) := by omega
            obtain ⟨gr, hA6⟩ : ∃ gr, A6 = some ⟨gr, 0, none⟩ := by
              rcases HO.out.2 with ⟨_, h0⟩ | ⟨g', cap, cur, hv, _⟩
              · omega
              · injection hv with hA; exact ⟨g', hA⟩
            subst hA6
            have hgrA : wA.heap.size ≤ gr := (HO.out.lt gr rfl).1
            have hnew : Hid (∀ t, t < m → (g t).1 ≠ gr) := fun t ht => by
              obtain ⟨cs, hb, _⟩ := HM.out.blk ht
              have := hb.lt
              omega
            have HO2 := Lib.hid (own_base HO.out HM.out.bs)
            have HT2 := Lib.hid (HT.out.take hlt HR.out (by rw [hL.out]; exact hLC))
            have hc1 : m + 1 ≤ maxLen := by unfold maxLen; omega
            have hc2 : (m + 1) * 24 ≤ 140737488355328 := by omega
            go_wp2_with fail
            refine FIr.out.mono ?_; rintro e w' ⟨rfl, rfl⟩
            clear FIr
            go_wp2_with (at_builtin; refine wpList_append_any _ rfl (.tmp 89) (.tmp 91) 60 rfl W0.heap.size 22 i1 (.slice none 0 0) 1 24 Try.underlying60 hi_.out hy0.out hy1.out hy2.out rfl (by omega) A4 m c4 _ rfl (HMr.out.out.alloc (.cells #[.slice (some ⟨gr, 0, none⟩) C c6] 22)) (wr.heap.size + 1) _ 1 1 _ rfl (reads_one wr _ _) (one_one rfl) hc1 hc2 (show W0.heap.size ≤ (wr.alloc (.cells #[.slice (some ⟨gr, 0, none⟩) C c6] 22)).heap.size from Nat.le_trans HMr.out.bs (by simp)) ?_; intro A3 c3 w4 ho4 hgq _hsq; have hB4 : Below W0.heap.size W0 w4 := below_app (HBw.out.alloc HBw.out.size (.cells #[.slice (some ⟨gr, 0, none⟩) C c6] 22)) hgq (HMr.out.out.alloc (.cells #[.slice (some ⟨gr, 0, none⟩) C c6] 22)) (show W0.heap.size ≤ (wr.alloc (.cells #[.slice (some ⟨gr, 0, none⟩) C c6] 22)).heap.size from Nat.le_trans HMr.out.bs (by simp)); have hP4 := (HMr.out.below ((Below.refl _ _).alloc (Nat.le_refl _) (.cells #[.slice (some ⟨gr, 0, none⟩) C c6] 22))).push (HO2.out.alloc _) hnew.out ho4 hgq; replace hB4 := Lib.hid hB4; replace hP4 := Lib.hid hP4; clear hgq _hsq ho4)
            go_roundw
            case rel =>
              refine ⟨i + 1, m + 1, c3, A3, _, (fun s => if s = m then r else T s), rfl, by go_num, by omega, by omega, hB4, hP4.out.eqf (fun s t _ _ => ?_), HT2⟩
              show (if s = m then r t else T s t) = (if s = m then r else T s) t
              by_cases e : s = m
              · rw [if_pos e, if_pos e]
              · rw [if_neg e, if_neg e]
            case measure => simp [intOf]; omega
          · have hLC' : (C : Int) ≤ (L : Int) := by omega
            have HT2 := Lib.hid (HT.out.skip HR.out (by rw [hL.out]; exact hLC))
            go_wp2_with fail
            refine FIr.out.mono ?_; rintro e w' ⟨rfl, rfl⟩
            clear FIr
            go_wp2_with fail
            go_roundw
            case rel => exact ⟨i + 1, m, c4, A4, g, T, rfl, by go_num, by omega, by omega, HBw, HMr, HT2⟩
            case measure => simp [intOf]; omega
    · have hge : (R : Int) ≤ (i : Int) := by omega
      have hiR2 : i = R := by omega
      rw [hiR2] at HT
      have hme : Hid (m = Lin.rank R C M) := HT.out.done
      have HBw := Lib.hid (KB.out _ HB.out)
      replace hiR2 := Lib.hid hiR2
      go_wp2_with fail
      go_ret2
      exact ⟨by rw [← hme.out]; rfl, HBw.out⟩
end Go.Proofs.Ytbokbndphpdgoaa
