/-
  A matrix by parts, the document's: walked.
-/
import Derived.Test.YtjbedcgacnnanaaDoorRse
namespace Go.Proofs.YtjbedcgacnnanaaDoor
set_option linter.unusedSimpArgs false
set_option linter.unusedVariables false
open Go.RowKit

theorem TimesIn.elem {w W : World} {R C L : Nat} {f : Nat → Nat → UInt8} {Am A : Option Addr} {xss : List (List UInt8)} (h : TimesIn w W R C L f Am A xss) {j n : Nat} (hj : j < C) (hn : n < L) :
    ∃ ad aj cj b, A = some ad ∧ W.cell? (ad.add j) = some (.slice (some aj) L cj) ∧ W.cell? (aj.add n) = some (.int .u8 (UInt8.toNat b : Int)) ∧ Rsp.at_ xss j n = b := by
  obtain ⟨ad, bs, Aj, cj, hA, hb, hl, hc, hr⟩ := h.row j hj
  obtain ⟨aj, b, hAj, _, hb1, hc1⟩ := hr.byte hn
  subst hAj
  refine ⟨ad, aj, cj, b, hA, hc, hc1, ?_⟩
  have e : xss.getD j [] = bs := by rw [List.getD_eq_getElem?_getD, hb]; rfl
  unfold Rsp.at_
  rw [e, List.getD_eq_getElem?_getD, hb1]; rfl

set_option maxRecDepth 100000 in
set_option maxHeartbeats 8000000 in
theorem refTimes_any (R C L : Nat) (f : Nat → Nat → UInt8) (Am A : Option Addr) (k cl : Nat) (xss : List (List UInt8)) (w : World) (hR : R ≤ 255) (hC : C ≤ 255) (hC1 : 1 ≤ C) (hk : R * C ≤ k) (hLm : L ≤ 1000000)
    (hm : Reads w w.heap.size 1 Am (R * C) ((cellsTo C f (R * C)).map B8)) (hx : Rows8 w w.heap.size A C xss) (hL : ∀ x ∈ xss, x.length = L) :
    Calls Tryd.prog 45 #[.agg #[.int .i64 R, .int .i64 C, .slice Am (R * C) k], .slice A C cl] w (LsRet w R (Rsp.timesP R C L f xss)) := by
  have IN := Lib.hid (fun W hB => times_in hm hx hL W hB)
  obtain ⟨i0, hi, hz0, hz1, hz2⟩ := info_parts info_u8
  replace hi := Lib.hid hi; replace hz0 := Lib.hid hz0; replace hz1 := Lib.hid hz1; replace hz2 := Lib.hid hz2
  obtain ⟨i1, hi_, hy0, hy1, hy2⟩ := info_parts info_row8
  replace hi_ := Lib.hid hi_; replace hy0 := Lib.hid hy0; replace hy1 := Lib.hid hy1; replace hy2 := Lib.hid hy2
  have LT := Lib.hid (fun (i j : Nat) (hi : i < R) (hj : j < C) => row_lt hi hj)
  have hRC : R * C ≤ 65025 := rc_le hR hC
  obtain ⟨S, hS⟩ : ∃ S : Nat → Nat → Nat → UInt8, S = fun i n j => Lin.sum (fun t => fm (f i t) (Rsp.at_ xss t n)) j := ⟨_, rfl⟩
  have S0 : Hid (∀ i n, S i n 0 = 0) := fun i n => by rw [hS]; rfl
  have Ss : Hid (∀ i n j b, Rsp.at_ xss j n = b → S i n (j + 1) = S i n j ^^^ fm (f i j) b) := fun i n j b hb => by rw [hS, ← hb]; rfl
  have Sr : Hid (∀ i, Rsp.rowP C L (f i) xss = rowF L (fun n => S i n C)) := fun i => by rw [hS]; rfl
  have RMu := Lib.hid (fun W (a b : UInt8) => refMul8m a b W)
  generalize R * C = q at *
  clear hm hx hL hS
  go_enter Tryd.func45, Tryd.ntmps45
  go_wp2_with fail
  have hb0 : Hid (Blk (w.alloc (.cells #[.int .i64 R, .int .i64 C, .slice Am q k] 75)) w.heap.size 75 #[.int .i64 R, .int .i64 C, .slice Am q k]) := Blk.new w 75 #[.int .i64 R, .int .i64 C, .slice Am q k]
  have hB0 := Lib.hid (below_alloc (Below.refl w.heap.size w) (.cells #[.int .i64 R, .int .i64 C, .slice Am q k] 75))
  have hs0 : w.heap.size < (w.alloc (.cells #[.int .i64 R, .int .i64 C, .slice Am q k] 75)).heap.size := hb0.out.lt
  generalize w.alloc (.cells #[.int .i64 R, .int .i64 C, .slice Am q k] 75) = W0 at *
  have CB : Hid (∀ W, Below W0.heap.size W0 W → Below w.heap.size w W ∧ W.cell? ⟨w.heap.size, 0, none⟩ = some (.int .i64 R) ∧ W.cell? ⟨w.heap.size, 1, none⟩ = some (.int .i64 C) ∧ W.cell? ⟨w.heap.size, 2, none⟩ = some (.slice Am q k)) := fun W hW =>
    have hb := hb0.out.below hW hb0.out.lt
    ⟨hB0.out.trans (hW.mono (by omega)), hb.cell 0, hb.cell 1, hb.cell 2⟩
  go_loopw [5, 6] (fun v5 v6 wr => ∃ (i c5 : Nat) (A5 : Option Addr), v5 = .slice A5 i c5 ∧ v6 = .int .i64 i ∧ i ≤ R ∧ Hid (Below W0.heap.size W0 wr) ∧ Hid (Lists wr 0 W0.heap.size A5 i c5 (Rsp.timesP i C L f xss))) (fun _ v6 _ => R - (intOf v6).toNat)
  case atStart => exact ⟨0, 0, none, rfl, rfl, by omega, Below.refl _ _, Lists.nil _ _ _ (Nat.zero_le _) (Nat.le_refl _)⟩
  case round =>
    obtain ⟨i, c5, A5, rfl, rfl, hiR, HB, HL⟩ := hrel
    obtain ⟨HBw, x0, x1, x2⟩ := CB.out wr HB.out
    replace HBw := Lib.hid HBw
    by_cases hlt : i < R
    · have hlt' : (i : Int) < (R : Int) := by omega
      have hC0 : (0 : Int) < (C : Int) := by omega
      go_wp2_with fail
      clear x0 x1 x2
      generalize hwA : wr = wA at *
      replace hwA := Lib.hid hwA
      go_loopw [7, 8] (fun v7 v8 wr => ∃ (n c7 : Nat) (A7 : Option Addr), v7 = .slice A7 n c7 ∧ v8 = .int .i64 n ∧ n ≤ L ∧ Hid (Below wA.heap.size wA wr) ∧ Hid (wr.ownsRow wA.heap.size 5 1 (.slice A7 n c7) n (((rowF L (fun n => S i n C)).take n).map B8))) (fun _ v8 _ => L - (intOf v8).toNat)
      case atStart => exact ⟨0, 0, none, rfl, rfl, by omega, Below.refl _ _, by rw [List.take_zero]; exact World.ownsRow_nil _ _ _ 1⟩
      case round =>
        obtain ⟨n, c7, A7, rfl, rfl, hnL, HBr, HO⟩ := hrel
        have HB2 := Lib.hid (below_then HB.out HBr.out)
        have hb1 : n + 1 ≤ maxLen := by unfold maxLen; omega
        have hb2 : (n + 1) * 1 ≤ 140737488355328 := by omega
        obtain ⟨HBw2, x0, x1, x2⟩ := CB.out wr HB2.out
        replace HBw2 := Lib.hid HBw2
        obtain ⟨ad, b0, A0, c0, hA, -, -, e0, -⟩ := (IN.out wr HBw2.out).row 0 (by omega)
        subst hA
        have e0' : wr.cell? ad = some (.slice A0 L c0) := by simpa [Addr.add] using e0
        clear e0
        by_cases hnl : n < L
        · have hnl' : (n : Int) < (L : Int) := by omega
          go_wp2_with fail
          clear x0 x1 x2 e0'
          go_loopw [9, 10] (fun v9 v10 wr => ∃ (j : Nat), v9 = .int .u8 ((S i n j).toNat : Int) ∧ v10 = .int .i64 j ∧ j ≤ C ∧ Hid (Below wA.heap.size wA wr) ∧ Hid (wr.ownsRow wA.heap.size 5 1 (.slice A7 n c7) n (((rowF L (fun n => S i n C)).take n).map B8))) (fun _ v10 _ => C - (intOf v10).toNat)
          case atStart => exact ⟨0, by rw [S0.out]; rfl, rfl, by omega, HBr, HO⟩
          case round =>
            clear HBr HO HB2 HBw2
            obtain ⟨j, rfl, rfl, hjC, HBr, HO⟩ := hrel
            have HB2 := Lib.hid (below_then HB.out HBr.out)
            obtain ⟨HBw2, x0, x1, x2⟩ := CB.out wr HB2.out
            replace HBw2 := Lib.hid HBw2
            by_cases hjl : j < C
            · have hjl' : (j : Int) < (C : Int) := by omega
              obtain ⟨am, hAm, em⟩ := (IN.out wr HBw2.out).cell i j hlt hjl
              obtain ⟨ad', aj, cj, b, hA, ej, eb, hb⟩ := (IN.out wr HBw2.out).elem hjl hnl
              obtain rfl : ad = ad' := by injection hA
              subst hAm
              have hq := LT.out i j hlt hjl
              have EsK := Lib.hid (Ss.out i n j b hb)
              have RM : Hid (∀ W, Calls Tryd.prog 62 #[.int .u8 ((f i j).toNat : Int), .int .u8 (b.toNat : Int)] W fun e w' => e = .returned (.int .u8 ((fm (f i j) b).toNat : Int)) ∧ W = w') := fun W => RMu.out W (f i j) b
              have hxor := xor8m (S i n j) (fm (f i j) b)
              rw [← EsK.out] at hxor
              have u1 := (f i j).toNat_lt
              have u2 := b.toNat_lt
              have u3 := (fm (f i j) b).toNat_lt
              have u4 := (S i n j).toNat_lt
              clear hb EsK hA
              obtain ⟨en1, Hen⟩ : ∃ en1, Hid ((S i n (j + 1)).toNat = en1) := ⟨_, rfl⟩
              rw [Hen.out] at hxor
              generalize (S i n j).toNat = en at *
              generalize (fm (f i j) b).toNat = fn at *
              generalize (f i j).toNat = bn1 at *
              generalize b.toNat = bn2 at *
              have hmul1 : (i : Int) * (C : Int) = ((i * C : Nat) : Int) := (Int.natCast_mul i C).symm
              generalize i * C = q1 at *
              have hsum1 : (q1 : Int) + (j : Int) = ((q1 + j : Nat) : Int) := by omega
              have hwr1 : IntKind.i64.wrap ((q1 + j : Nat) : Int) = ((q1 + j : Nat) : Int) := by rw [IntKind.wrap_i64]; omega
              have hwq1 : IntKind.i64.wrap (q1 : Int) = (q1 : Int) := by rw [IntKind.wrap_i64]; omega
              have hs1 : ((q1 + j : Nat) : Int) < (q : Int) := by omega
              generalize q1 + j = s1 at *
              have hs10 : (0 : Int) ≤ (s1 : Int) := by omega
              go_wp2_with fail
              refine region_E 21 (fun W => W.cell? ⟨w.heap.size, 1, none⟩ = some (.int .i64 C) ∧ W.cell? ⟨w.heap.size, 2, none⟩ = some (.slice (some am) q k) ∧ W.cell? (am.add s1) = some (.int .u8 bn1) ∧ W.cell? (ad.add j) = some (.slice (some aj) L cj) ∧ W.cell? (aj.add n) = some (.int .u8 bn2)) (by kernel_rfl) ⟨x1, x2, em, ej, eb⟩ (fun hHeld => ?_)
              refine took 0 (v := ?_) rfl (by kernel_rfl) (by kernel_rfl) (by kernel_rfl) (by kernel_rfl) (fun _ _ _ h => h) (by rfl) (by assumption) ?_ ?_
              rotate_left
              · (intro W hSw; (try dsimp only at hSw); go_simp; first | done | with_reducible rfl)
              try simp only [Act.put, List.setIfInBounds_toArray, List.set_cons_zero, List.set_cons_succ]
              refine took 1 (v := ?_) rfl (by kernel_rfl) (by kernel_rfl) (by kernel_rfl) (by kernel_rfl) (fun _ _ _ h => h) (by rfl) (by assumption) ?_ ?_
              rotate_left
              · (intro W hSw; (try dsimp only at hSw); go_simp; first | done | with_reducible rfl)
              try simp only [Act.put, List.setIfInBounds_toArray, List.set_cons_zero, List.set_cons_succ]
              refine took 2 (v := ?_) rfl (by kernel_rfl) (by kernel_rfl) (by kernel_rfl) (by kernel_rfl) (fun _ _ _ h => h) (by rfl) (by assumption) ?_ ?_
              rotate_left
              · (intro W hSw; (try dsimp only at hSw); go_simp; first | done | with_reducible rfl)
              try simp only [Act.put, List.setIfInBounds_toArray, List.set_cons_zero, List.set_cons_succ]
              refine took 3 (v := ?_) rfl (by kernel_rfl) (by kernel_rfl) (by kernel_rfl) (by kernel_rfl) (fun _ _ _ h => h) (by rfl) (by assumption) ?_ ?_
              rotate_left
              · (intro W hSw; (try dsimp only at hSw); go_simp; first | done | with_reducible rfl)
              try simp only [Act.put, List.setIfInBounds_toArray, List.set_cons_zero, List.set_cons_succ]
              refine took 4 (v := ?_) rfl (by kernel_rfl) (by kernel_rfl) (by kernel_rfl) (by kernel_rfl) (fun _ _ _ h => h) (by rfl) (by assumption) ?_ ?_
              rotate_left
              · (intro W hSw; (try dsimp only at hSw); go_simp; first | done | with_reducible rfl)
              try simp only [Act.put, List.setIfInBounds_toArray, List.set_cons_zero, List.set_cons_succ]
              refine took 5 (v := ?_) rfl (by kernel_rfl) (by kernel_rfl) (by kernel_rfl) (by kernel_rfl) (fun _ _ _ h => h) (by rfl) (by assumption) ?_ ?_
              rotate_left
              · (intro W hSw; (try dsimp only at hSw); go_simp; first | done | with_reducible rfl)
              try simp only [Act.put, List.setIfInBounds_toArray, List.set_cons_zero, List.set_cons_succ]
              refine took 6 (v := ?_) rfl (by kernel_rfl) (by kernel_rfl) (by kernel_rfl) (by kernel_rfl) (fun _ _ _ h => h) (by rfl) (by assumption) ?_ ?_
              rotate_left
              · (intro W hSw; (try dsimp only at hSw); go_simp; first | done | with_reducible rfl)
              try simp only [Act.put, List.setIfInBounds_toArray, List.set_cons_zero, List.set_cons_succ]
              refine took 7 (v := ?_) rfl (by kernel_rfl) (by kernel_rfl) (by kernel_rfl) (by kernel_rfl) (fun _ _ _ h => h) (by rfl) (by assumption) ?_ ?_
              rotate_left
              · (intro W hSw; (try dsimp only at hSw); go_simp; first | done | with_reducible rfl)
              try simp only [Act.put, List.setIfInBounds_toArray, List.set_cons_zero, List.set_cons_succ]
              refine took 8 (v := ?_) rfl (by kernel_rfl) (by kernel_rfl) (by kernel_rfl) (by kernel_rfl) (fun _ _ _ h => h) (by rfl) (by assumption) ?_ ?_
              rotate_left
              · (intro W hSw; (try dsimp only at hSw); go_simp; first | done | with_reducible rfl)
              try simp only [Act.put, List.setIfInBounds_toArray, List.set_cons_zero, List.set_cons_succ]
              refine took 9 (v := ?_) rfl (by kernel_rfl) (by kernel_rfl) (by kernel_rfl) (by kernel_rfl) (fun _ _ _ h => h) (by rfl) (by assumption) ?_ ?_
              rotate_left
              · (intro W hSw; (try dsimp only at hSw); go_simp; first | done | with_reducible rfl)
              try simp only [Act.put, List.setIfInBounds_toArray, List.set_cons_zero, List.set_cons_succ]
              refine took 10 (v := ?_) rfl (by kernel_rfl) (by kernel_rfl) (by kernel_rfl) (by kernel_rfl) (fun _ _ _ h => h) (by rfl) (by assumption) ?_ ?_
              rotate_left
              · (intro W hSw; (try dsimp only at hSw); go_simp; first | done | with_reducible rfl)
              try simp only [Act.put, List.setIfInBounds_toArray, List.set_cons_zero, List.set_cons_succ]
              refine took 11 (v := ?_) rfl (by kernel_rfl) (by kernel_rfl) (by kernel_rfl) (by kernel_rfl) (fun _ _ _ h => h) (by rfl) (by assumption) ?_ ?_
              rotate_left
              · (intro W hSw; (try dsimp only at hSw); go_simp; first | done | with_reducible rfl)
              try simp only [Act.put, List.setIfInBounds_toArray, List.set_cons_zero, List.set_cons_succ]
              refine took 12 (v := ?_) rfl (by kernel_rfl) (by kernel_rfl) (by kernel_rfl) (by kernel_rfl) (fun _ _ _ h => h) (by rfl) (by assumption) ?_ ?_
              rotate_left
              · (intro W hSw; (try dsimp only at hSw); go_simp; first | done | with_reducible rfl)
              try simp only [Act.put, List.setIfInBounds_toArray, List.set_cons_zero, List.set_cons_succ]
              refine took 13 (v := ?_) rfl (by kernel_rfl) (by kernel_rfl) (by kernel_rfl) (by kernel_rfl) (fun _ _ _ h => h) (by rfl) (by assumption) ?_ ?_
              rotate_left
              · (intro W hSw; (try dsimp only at hSw); go_simp; first | done | with_reducible rfl)
              try simp only [Act.put, List.setIfInBounds_toArray, List.set_cons_zero, List.set_cons_succ]
              refine took 14 (v := ?_) rfl (by kernel_rfl) (by kernel_rfl) (by kernel_rfl) (by kernel_rfl) (fun _ _ _ h => h) (by rfl) (by assumption) ?_ ?_
              rotate_left
              · (intro W hSw; (try dsimp only at hSw); go_simp; first | done | with_reducible rfl)
              try simp only [Act.put, List.setIfInBounds_toArray, List.set_cons_zero, List.set_cons_succ]
              refine took 15 (v := ?_) rfl (by kernel_rfl) (by kernel_rfl) (by kernel_rfl) (by kernel_rfl) (fun _ _ _ h => h) (by rfl) (by assumption) ?_ ?_
              rotate_left
              · (intro W hSw; (try dsimp only at hSw); go_simp; first | done | with_reducible rfl)
              try simp only [Act.put, List.setIfInBounds_toArray, List.set_cons_zero, List.set_cons_succ]
              refine took 16 (v := ?_) rfl (by kernel_rfl) (by kernel_rfl) (by kernel_rfl) (by kernel_rfl) (fun _ _ _ h => h) (by rfl) (by assumption) ?_ ?_
              rotate_left
              · (intro W hSw; (try dsimp only at hSw); go_simp; first | done | with_reducible rfl)
              try simp only [Act.put, List.setIfInBounds_toArray, List.set_cons_zero, List.set_cons_succ]
              refine took 17 (v := ?_) rfl (by kernel_rfl) (by kernel_rfl) (by kernel_rfl) (by kernel_rfl) (fun _ _ _ h => h) (by rfl) (by assumption) ?_ ?_
              rotate_left
              · (intro W hSw; (try dsimp only at hSw); go_simp; first | done | with_reducible rfl)
              try simp only [Act.put, List.setIfInBounds_toArray, List.set_cons_zero, List.set_cons_succ]
              refine carried 18 rfl (by kernel_rfl) (by rfl) (fun K hK => ?_)
              go_simp
              (go_at_call 62; ((with_reducible refine (RM.out _).mono ?_); rintro e w' ⟨rfl, rfl⟩))
              refine hK.out _ _ (hHeld) (fun hHeld => ?_)
              clear hK K
              try simp only [Act.put, List.setIfInBounds_toArray, List.set_cons_zero, List.set_cons_succ]
              refine took 19 (v := ?_) rfl (by kernel_rfl) (by kernel_rfl) (by kernel_rfl) (by kernel_rfl) (fun _ _ _ h => h) (by rfl) (by assumption) ?_ ?_
              rotate_left
              · (intro W hSw; (try dsimp only at hSw); go_simp; first | done | with_reducible rfl)
              try simp only [Act.put, List.setIfInBounds_toArray, List.set_cons_zero, List.set_cons_succ]
              refine took 20 (v := ?_) rfl (by kernel_rfl) (by kernel_rfl) (by kernel_rfl) (by kernel_rfl) (fun _ _ _ h => h) (by rfl) (by assumption) ?_ ?_
              rotate_left
              · (intro W hSw; (try dsimp only at hSw); go_simp; first | done | with_reducible rfl)
              try simp only [Act.put, List.setIfInBounds_toArray, List.set_cons_zero, List.set_cons_succ]
              refine allDone (by kernel_rfl) ?_ _
              clear hHeld x0 x1 x2
              go_wp2_with fail
              go_roundw
              case rel => exact ⟨j + 1, by rw [Hen.out], by go_num, by omega, HBr.out.drew, HO.out.drew⟩
              case measure => simp [intOf]; omega
            · have hge : (C : Int) ≤ (j : Int) := by omega
              obtain rfl : j = C := by omega
              have TK : ((rowF L (fun n => S i n j)).take (n + 1)).map B8 = ((rowF L (fun n => S i n j)).take n).map B8 ++ [.int .u8 ((S i n j).toNat : Int)] := by
                rw [List.take_add_one, rowF_get _ _ _ hnl]; simp [B8]
              replace TK := Lib.hid TK
              have u4 := (S i n j).toNat_lt
              generalize (S i n j).toNat = en at *
              go_wp2_with (at_builtin; refine wpList_append_any _ rfl (.tmp 51) (.tmp 53) 27 rfl wA.heap.size 5 i0 (.int .u8 0) 1 1 Tryd.underlying27 hi.out hz0.out hz1.out hz2.out rfl (by omega) A7 n c7 _ rfl (HO.out.alloc (.cells #[.int .u8 (en : Int)] 5)) (wr.heap.size + 1) _ 1 1 _ rfl (reads_one wr _ _) (one_one rfl) hb1 hb2 (show wA.heap.size ≤ (wr.alloc (.cells #[.int .u8 (en : Int)] 5)).heap.size from Nat.le_trans HBr.out.size (by simp)) ?_; intro A3 c3 w4 ho4 hgq _hsq; have hB4 : Below wA.heap.size wA w4 := below_app (HBr.out.alloc HBr.out.size (.cells #[.int .u8 (en : Int)] 5)) hgq (HO.out.alloc (.cells #[.int .u8 (en : Int)] 5)) (show wA.heap.size ≤ (wr.alloc (.cells #[.int .u8 (en : Int)] 5)).heap.size from Nat.le_trans HBr.out.size (by simp)); replace ho4 := Lib.hid ho4; replace hB4 := Lib.hid hB4; clear hgq _hsq)
              go_roundw
              case rel => exact ⟨n + 1, c3, A3, rfl, by go_num, by omega, hB4, by rw [TK.out]; exact ho4.out⟩
              case measure => simp [intOf]; omega
        · have hge : (L : Int) ≤ (n : Int) := by omega
          obtain rfl : n = L := by omega
          rw [List.take_of_length_le (by rw [rowF_len]; omega), ← Sr.out] at HO
          have HO2 := Lib.hid (own_base HO.out HB.out.size)
          have HL2 := Lib.hid (HL.out.below HBr.out)
          have hc1 : i + 1 ≤ maxLen := by unfold maxLen; omega
          have hc2 : (i + 1) * 24 ≤ 140737488355328 := by omega
          have hln : Hid ((Rsp.rowP C n (f i) xss).length = n) := (RowOK.own (b0 := 0) HO2.out).1
          have hLa := HL2.out.below ((Below.refl _ wr).alloc (Nat.le_refl _) (.cells #[.slice A7 n c7] 27))
          have hRa := RowOK.below ((RowOK.own HO2.out).2) HL2.out.b0s HL2.out.bs ((Below.refl _ wr).alloc (Nat.le_refl _) (.cells #[.slice A7 n c7] 27))
          obtain ⟨⟨vs, hv1, hv2, hv3⟩, hvb, hv0⟩ := hLa
          replace hv1 := Lib.hid hv1; replace hv2 := Lib.hid hv2; replace hv3 := Lib.hid hv3; replace hvb := Lib.hid hvb; replace hv0 := Lib.hid hv0; replace hRa := Lib.hid hRa
          clear HO HL HO2 HL2
          clear x0 x1 x2
          go_wp2_with (at_builtin; refine wpList_append_any _ rfl (.tmp 55) (.tmp 57) 55 rfl W0.heap.size 27 i1 (.slice none 0 0) 1 24 Tryd.underlying55 hi_.out hy0.out hy1.out hy2.out rfl (by omega) A5 i c5 _ rfl hv1.out (wr.heap.size + 1) _ 1 1 _ rfl (reads_one wr _ _) (one_one rfl) hc1 hc2 hvb.out ?_; intro A3 c3 w4 ho4 hgq _hsq; have hB4 : Below W0.heap.size W0 w4 := below_app (HB2.out.alloc HB2.out.size (.cells #[.slice A7 n c7] 27)) hgq hv1.out hvb.out; have hP4 := Lists.pushN hln.out hRa.out hv1.out hv2.out hv3.out hv0.out hvb.out ho4 hgq; replace hB4 := Lib.hid hB4; replace hP4 := Lib.hid hP4; clear hgq _hsq ho4 hv1 hv2 hv3 hvb hv0 hRa)
          go_roundw
          case rel => exact ⟨i + 1, c3, A3, rfl, by go_num, by omega, hB4, by rw [Rsp.timesP_step]; exact hP4.out⟩
          case measure => simp [intOf]; omega
    · have hge : (R : Int) ≤ (i : Int) := by omega
      obtain rfl : i = R := by omega
      go_wp2_with fail
      go_ret
      exact ⟨_, _, rfl, HL.out.older (Nat.le_refl _) (Nat.zero_le _) (Nat.le_of_lt hs0), HBw.out⟩
end Go.Proofs.YtjbedcgacnnanaaDoor
