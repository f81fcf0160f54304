/-
  The document's product of matrices, walked; the bad sizes of both.
-/
import Derived.Test.YtbokbndphpdgoaaMatmu
namespace Go.Proofs.Ytbokbndphpdgoaa
set_option linter.unusedSimpArgs false
set_option linter.unusedVariables false
open Go.RowKit

theorem cellAt_of {bs : List UInt8} {C i j : Nat} {b : UInt8} (h : bs[i * C + j]? = some b) : cellAt bs C i j = b := by
  unfold cellAt
  rw [List.getD_eq_getElem?_getD, h]; rfl
theorem xor8m (a b : UInt8) : bits .xor .u8 (a.toNat : Int) (b.toNat : Int) = ((a ^^^ b).toNat : Int) := by
  rw [u8_xor_nat _ _ a.toNat_lt b.toNat_lt, UInt8.toNat_xor]
theorem refMul8m (a b : UInt8) (w : World) :
    Calls Try.prog 42 #[.int .u8 (a.toNat : Int), .int .u8 (b.toNat : Int)] w fun e w' => e = .returned (.int .u8 ((fm a b).toNat : Int)) ∧ w = w' := by
  rw [fm_toNat]; exact refMul_any _ _ _ a.toNat_lt b.toNat_lt

set_option maxRecDepth 100000 in
set_option maxHeartbeats 8000000 in
theorem refMul_in (R K C : Nat) (A A' : Option Addr) (n k n' k' : Nat) (xa xb : List UInt8) (w : World) (hR : R ≤ 255) (hK : K ≤ 255) (hC : C ≤ 255) (hn : n = R * K) (hnk : n ≤ k) (hn' : n' = K * C) (hnk' : n' ≤ k')
    (h : Reads w w.heap.size 1 A n (xa.map B8)) (h' : Reads w w.heap.size 1 A' n' (xb.map B8)) :
    Calls Try.prog 28 #[.agg #[.int .i64 R, .int .i64 K, .slice A n k], .agg #[.int .i64 K, .int .i64 C, .slice A' n' k']] w (MRet w R C (mulC xa xb R K C) 0) := by
  have M1 := fun W => Lib.hid (refMay_any R K A n k W)
  have M2 := fun W => Lib.hid (refMay_any K C A' n' k' W)
  unfold mC at M1 M2
  have hm1 : Matp.may (R : Int) (K : Int) n = true := by
    unfold Matp.may; rw [hn, Int.natCast_mul]; simp; omega
  have hm2 : Matp.may (K : Int) (C : Int) n' = true := by
    unfold Matp.may; rw [hn', Int.natCast_mul]; simp; omega
  rw [hm1] at M1
  rw [hm2] at M2
  have hz := (zero_of_info info_m).1
  obtain ⟨i0, hi, hz0, hz1, hz2⟩ := info_parts info_u8
  replace hi := Lib.hid hi; replace hz0 := Lib.hid hz0; replace hz1 := Lib.hid hz1; replace hz2 := Lib.hid hz2
  obtain ⟨E, hE⟩ : ∃ E : Nat → Nat → Nat → UInt8, E = fun i j k => dotK (cellAt xa K) (cellAt xb C) i j k := ⟨_, rfl⟩
  obtain ⟨P, hP⟩ : ∃ P : Nat → List UInt8, P = fun t => cellsTo C (fun i j => E i j K) t := ⟨_, rfl⟩
  have P0 : Hid (P 0 = []) := by rw [hP]; rfl
  have Pe : Hid (mulC xa xb R K C = P (R * C)) := by rw [hP, hE]; rfl
  have Ps : Hid (∀ i j, j < C → P (i * C + j + 1) = P (i * C + j) ++ [E i j K]) := fun i j hj => by rw [hP]; exact cellsTo_step C _ i j hj
  have Pl : Hid (∀ t, (P t).length = t) := fun t => by rw [hP]; exact cellsTo_len _ _ _
  have E0 : Hid (∀ i j, E i j 0 = 0) := fun i j => by rw [hE]; rfl
  have Es : Hid (∀ i j k x y, xa[i * K + k]? = some x → xb[k * C + j]? = some y → E i j (k + 1) = E i j k ^^^ fm x y) := fun i j k x y hx hy => by
    rw [hE]
    show _ ^^^ fm (cellAt xa K i k) (cellAt xb C k j) = _
    rw [cellAt_of hx, cellAt_of hy]
  have HRC : Hid (R * C ≤ 65025) := rc_le hR hC
  have NA := Lib.hid (fun (i t : Nat) (hi : i < R) (ht : t < K) => show i * K + t < n by rw [hn]; exact row_lt hi ht)
  have NB := Lib.hid (fun (i t : Nat) (hi : i < K) (ht : t < C) => show i * C + t < n' by rw [hn']; exact row_lt hi ht)
  have hn65 : n ≤ 65025 := by rw [hn]; exact rc_le hR hK
  have hn65' : n' ≤ 65025 := by rw [hn']; exact rc_le hK hC
  have H := Lib.hid h
  have H' := Lib.hid h'
  rw [Pe.out]
  clear hm1 hm2 h h' hn hnk hn' hnk' hP hE
  go_enter Try.func28, Try.ntmps28
  go_wp2_with fail
  obtain ⟨hb2, hb3, hb4, hB0⟩ := blk3 w 24 24 24 #[.int .i64 R, .int .i64 K, .slice A n k] #[.int .i64 K, .int .i64 C, .slice A' n' k'] #[.int .i64 0, .int .i64 0, .slice none 0 0]
  generalize ((w.alloc (.cells #[.int .i64 R, .int .i64 K, .slice A n k] 24)).alloc (.cells #[.int .i64 K, .int .i64 C, .slice A' n' k'] 24)).alloc (.cells #[.int .i64 0, .int .i64 0, .slice none 0 0] 24) = W0 at *
  have hg3 : w.heap.size < w.heap.size + 1 := Nat.lt_succ_self _
  have hg4 : w.heap.size < w.heap.size + 1 + 1 := by omega
  generalize w.heap.size + 1 + 1 = g4 at *
  generalize w.heap.size + 1 = g3 at *
  have hl4 : g4 < W0.heap.size := hb4.lt
  have hw0 : w.heap.size < W0.heap.size := hb2.lt
  have KB : Hid (∀ W, Below W0.heap.size W0 W → Below w.heap.size w W ∧ Blk W w.heap.size 24 (mC R K (.slice A n k)) ∧ Blk W g3 24 (mC K C (.slice A' n' k')) ∧ Blk W g4 24 (mC 0 0 (.slice none 0 0))) := fun W hW =>
    ⟨hB0.trans (hW.mono hB0.size), hb2.below hW hb2.lt, hb3.below hW hb3.lt, hb4.below hW hb4.lt⟩
  have C2 : Hid (∀ W, Below W0.heap.size W0 W → W.cell? ⟨w.heap.size, 0, none⟩ = some (.int .i64 R) ∧ W.cell? ⟨w.heap.size, 1, none⟩ = some (.int .i64 K) ∧ W.cell? ⟨w.heap.size, 2, none⟩ = some (.slice A n k)) := fun W hW => ⟨(KB.out W hW).2.1.cell 0, (KB.out W hW).2.1.cell 1, (KB.out W hW).2.1.cell 2⟩
  have C3 : Hid (∀ W, Below W0.heap.size W0 W → W.cell? ⟨g3, 0, none⟩ = some (.int .i64 K) ∧ W.cell? ⟨g3, 1, none⟩ = some (.int .i64 C) ∧ W.cell? ⟨g3, 2, none⟩ = some (.slice A' n' k')) := fun W hW => ⟨(KB.out W hW).2.2.1.cell 0, (KB.out W hW).2.2.1.cell 1, (KB.out W hW).2.2.1.cell 2⟩
  clear hb2 hb3 hb4 hB0
  refine (M1 _).out.mono ?_; rintro e w1 ⟨rfl, hB1⟩
  obtain ⟨y0, y1, y2⟩ := C3.out w1 hB1
  replace hB1 := Lib.hid hB1
  go_wp2_with fail
  refine (M2 _).out.mono ?_; rintro e w2 ⟨rfl, hB2⟩
  have HB2 := Lib.hid (below_then hB1.out hB2)
  clear hB1 hB2 y0 y1 y2
  obtain ⟨x0, x1, x2⟩ := C2.out w2 HB2.out
  obtain ⟨y0, y1, y2⟩ := C3.out w2 HB2.out
  go_wp2_with fail
  clear x0 x1 x2 y0 y1 y2
  have hb6 : Blk (w2.alloc (.cells #[.int .i64 R, .int .i64 C, .slice none 0 0] 24)) w2.heap.size 24 (mC R C (.slice none 0 0)) := Blk.new _ _ _
  have hB6 := below_alloc HB2.out (.cells #[.int .i64 R, .int .i64 C, .slice none 0 0] 24)
  have hg6 := HB2.out.size
  generalize w2.alloc (.cells #[.int .i64 R, .int .i64 C, .slice none 0 0] 24) = w6 at *
  generalize w2.heap.size = g6 at *
  replace hb6 := Lib.hid hb6; replace hB6 := Lib.hid hB6
  clear HB2
  go_loopw [7] (fun v7 wr => ∃ (i c' : Nat) (A1 : Option Addr), v7 = .int .i64 i ∧ i ≤ R ∧ Hid (Below W0.heap.size W0 wr) ∧ Hid (Blk wr g6 24 (mC R C (.slice A1 (i * C) c'))) ∧ Hid (wr.ownsRow W0.heap.size 5 1 (.slice A1 (i * C) c') (i * C) ((P (i * C)).map B8))) (fun v7 _ => R - (intOf v7).toNat)
  case atStart => exact ⟨0, 0, none, rfl, by omega, hB6, by rw [Nat.zero_mul]; exact hb6, by rw [Nat.zero_mul, P0.out]; exact World.ownsRow_nil _ _ _ 1⟩
  case round =>
    clear hb6 hB6
    obtain ⟨i, c', A1, rfl, hiR, HB, Hb6, HO⟩ := hrel
    obtain ⟨x0, x1, x2⟩ := C2.out wr HB.out
    by_cases hlt : i < R
    · have hlt' : (i : Int) < R := by omega
      have hm : (i + 1) * C ≤ 65025 := rc_le (by omega) hC
      have Hm1 : Hid ((i + 1) * C = i * C + C) := Nat.succ_mul _ _
      rw [Hm1.out] at hm
      have PsI := Lib.hid (fun j hj => Ps.out i j hj)
      generalize i * C = m at *
      go_wp2_with fail
      clear x0 x1 x2
      go_loopw [8] (fun v8 wr => ∃ (j c' : Nat) (A1 : Option Addr), v8 = .int .i64 j ∧ j ≤ C ∧ Hid (Below W0.heap.size W0 wr) ∧ Hid (Blk wr g6 24 (mC R C (.slice A1 (m + j) c'))) ∧ Hid (wr.ownsRow W0.heap.size 5 1 (.slice A1 (m + j) c') (m + j) ((P (m + j)).map B8))) (fun v8 _ => C - (intOf v8).toNat)
      case atStart => exact ⟨0, c', A1, rfl, by omega, HB, Hb6, HO⟩
      case round =>
        clear HB Hb6 HO c' A1
        obtain ⟨j, c', A1, rfl, hjC, HB, Hb6, HO⟩ := hrel
        obtain ⟨y0, y1, y2⟩ := C3.out wr HB.out
        by_cases hjl : j < C
        · have hjl' : (j : Int) < C := by omega
          go_wp2_with fail
          clear y0 y1 y2
          go_loopw [9, 10] (fun v9 v10 wr => ∃ (kk : Nat), v9 = .int .u8 ((E i j kk).toNat : Int) ∧ v10 = .int .i64 kk ∧ kk ≤ K ∧ Hid (Below W0.heap.size W0 wr) ∧ Hid (Blk wr g6 24 (mC R C (.slice A1 (m + j) c'))) ∧ Hid (wr.ownsRow W0.heap.size 5 1 (.slice A1 (m + j) c') (m + j) ((P (m + j)).map B8))) (fun _ v10 _ => K - (intOf v10).toNat)
          case atStart => exact ⟨0, by rw [E0.out]; rfl, rfl, by omega, HB, Hb6, HO⟩
          case round =>
            clear HB Hb6 HO
            obtain ⟨kk, rfl, rfl, hkK, HB, Hb6, HO⟩ := hrel
            obtain ⟨x0, x1, x2⟩ := C2.out wr HB.out
            by_cases hkl : kk < K
            · have hkl' : (kk : Int) < K := by omega
              obtain ⟨y0, y1, y2⟩ := C3.out wr HB.out
              have hnb := NA.out i kk hlt hkl
              have hnb' := NB.out kk j hkl hjl
              obtain ⟨ad1, b1, hA1, hblk1, hb1, ec1⟩ := (H.out.below (KB.out wr HB.out).1).byte (k := i * K + kk) hnb
              obtain ⟨ad2, b2, hA2, hblk2, hb2, ec2⟩ := (H'.out.below (KB.out wr HB.out).1).byte (k := kk * C + j) hnb'
              subst hA1
              subst hA2
              have EsK := Lib.hid (Es.out i j kk b1 b2 hb1 hb2)
              have RM : Hid (∀ W, Calls Try.prog 42 #[.int .u8 (b1.toNat : Int), .int .u8 (b2.toNat : Int)] W fun e w' => e = .returned (.int .u8 ((fm b1 b2).toNat : Int)) ∧ W = w') := fun W => refMul8m b1 b2 W
              have hxor := xor8m (E i j kk) (fm b1 b2)
              rw [← EsK.out] at hxor
              have u1 := b1.toNat_lt
              have u2 := b2.toNat_lt
              have u3 := (fm b1 b2).toNat_lt
              have u4 := (E i j kk).toNat_lt
              clear hblk1 hblk2 hb1 hb2 EsK
              obtain ⟨en1, Hen⟩ : ∃ en1, Hid ((E i j (kk + 1)).toNat = en1) := ⟨_, rfl⟩
              rw [Hen.out] at hxor
              generalize (E i j kk).toNat = en at *
              generalize (fm b1 b2).toNat = fn at *
              generalize b1.toNat = bn1 at *
              generalize b2.toNat = bn2 at *
              have hmul1 : (i : Int) * (K : Int) = ((i * K : Nat) : Int) := (Int.natCast_mul i K).symm
              have hmul2 : (kk : Int) * (C : Int) = ((kk * C : Nat) : Int) := (Int.natCast_mul kk C).symm
              generalize i * K = q1 at *
              generalize kk * C = q2 at *
              have hsum1 : (q1 : Int) + (kk : Int) = ((q1 + kk : Nat) : Int) := by omega
              have hsum2 : (q2 : Int) + (j : Int) = ((q2 + j : Nat) : Int) := by omega
              have hwr1 : IntKind.i64.wrap ((q1 + kk : Nat) : Int) = ((q1 + kk : Nat) : Int) := by rw [IntKind.wrap_i64]; omega
              have hwr2 : IntKind.i64.wrap ((q2 + j : Nat) : Int) = ((q2 + j : Nat) : Int) := by rw [IntKind.wrap_i64]; omega
              have hwq1 : IntKind.i64.wrap (q1 : Int) = (q1 : Int) := by rw [IntKind.wrap_i64]; omega
              have hwq2 : IntKind.i64.wrap (q2 : Int) = (q2 : Int) := by rw [IntKind.wrap_i64]; omega
              have hs1 : ((q1 + kk : Nat) : Int) < (n : Int) := by omega
              have hs2 : ((q2 + j : Nat) : Int) < (n' : Int) := by omega
              generalize q1 + kk = s1 at *
              generalize q2 + j = s2 at *
              have hs10 : (0 : Int) ≤ (s1 : Int) := by omega
              have hs20 : (0 : Int) ≤ (s2 : Int) := by omega
              go_wp2_with fail
              refine region_E 24 (fun W => W.cell? ⟨w.heap.size, 1, none⟩ = some (.int .i64 K) ∧ W.cell? ⟨w.heap.size, 2, none⟩ = some (.slice (some ad1) n k) ∧ W.cell? ⟨g3, 1, none⟩ = some (.int .i64 C) ∧ W.cell? ⟨g3, 2, none⟩ = some (.slice (some ad2) n' k') ∧ W.cell? (ad1.add s1) = some (.int .u8 bn1) ∧ W.cell? (ad2.add s2) = some (.int .u8 bn2)) (by kernel_rfl) ⟨x1, x2, y1, y2, ec1, ec2⟩ (fun hHeld => ?_)
              refine took 0 (v := ?_) rfl (by kernel_rfl) (by kernel_rfl) (by kernel_rfl) (by kernel_rfl) (fun _ _ _ h => h) (by rfl) (by assumption) ?_ ?_
              rotate_left
              · (intro W hSw; (try dsimp only at hSw); go_simp; first | done | with_reducible rfl)
              try simp only [Act.put, List.setIfInBounds_toArray, List.set_cons_zero, List.set_cons_succ]
              refine took 1 (v := ?_) rfl (by kernel_rfl) (by kernel_rfl) (by kernel_rfl) (by kernel_rfl) (fun _ _ _ h => h) (by rfl) (by assumption) ?_ ?_
              rotate_left
              · (intro W hSw; (try dsimp only at hSw); go_simp; first | done | with_reducible rfl)
              try simp only [Act.put, List.setIfInBounds_toArray, List.set_cons_zero, List.set_cons_succ]
              refine took 2 (v := ?_) rfl (by kernel_rfl) (by kernel_rfl) (by kernel_rfl) (by kernel_rfl) (fun _ _ _ h => h) (by rfl) (by assumption) ?_ ?_
              rotate_left
              · (intro W hSw; (try dsimp only at hSw); go_simp; first | done | with_reducible rfl)
              try simp only [Act.put, List.setIfInBounds_toArray, List.set_cons_zero, List.set_cons_succ]
              refine took 3 (v := ?_) rfl (by kernel_rfl) (by kernel_rfl) (by kernel_rfl) (by kernel_rfl) (fun _ _ _ h => h) (by rfl) (by assumption) ?_ ?_
              rotate_left
              · (intro W hSw; (try dsimp only at hSw); go_simp; first | done | with_reducible rfl)
              try simp only [Act.put, List.setIfInBounds_toArray, List.set_cons_zero, List.set_cons_succ]
              refine took 4 (v := ?_) rfl (by kernel_rfl) (by kernel_rfl) (by kernel_rfl) (by kernel_rfl) (fun _ _ _ h => h) (by rfl) (by assumption) ?_ ?_
              rotate_left
              · (intro W hSw; (try dsimp only at hSw); go_simp; first | done | with_reducible rfl)
              try simp only [Act.put, List.setIfInBounds_toArray, List.set_cons_zero, List.set_cons_succ]
              refine took 5 (v := ?_) rfl (by kernel_rfl) (by kernel_rfl) (by kernel_rfl) (by kernel_rfl) (fun _ _ _ h => h) (by rfl) (by assumption) ?_ ?_
              rotate_left
              · (intro W hSw; (try dsimp only at hSw); go_simp; first | done | with_reducible rfl)
              try simp only [Act.put, List.setIfInBounds_toArray, List.set_cons_zero, List.set_cons_succ]
              refine took 6 (v := ?_) rfl (by kernel_rfl) (by kernel_rfl) (by kernel_rfl) (by kernel_rfl) (fun _ _ _ h => h) (by rfl) (by assumption) ?_ ?_
              rotate_left
              · (intro W hSw; (try dsimp only at hSw); go_simp; first | done | with_reducible rfl)
              try simp only [Act.put, List.setIfInBounds_toArray, List.set_cons_zero, List.set_cons_succ]
              refine took 7 (v := ?_) rfl (by kernel_rfl) (by kernel_rfl) (by kernel_rfl) (by kernel_rfl) (fun _ _ _ h => h) (by rfl) (by assumption) ?_ ?_
              rotate_left
              · (intro W hSw; (try dsimp only at hSw); go_simp; first | done | with_reducible rfl)
              try simp only [Act.put, List.setIfInBounds_toArray, List.set_cons_zero, List.set_cons_succ]
              refine took 8 (v := ?_) rfl (by kernel_rfl) (by kernel_rfl) (by kernel_rfl) (by kernel_rfl) (fun _ _ _ h => h) (by rfl) (by assumption) ?_ ?_
              rotate_left
              · (intro W hSw; (try dsimp only at hSw); go_simp; first | done | with_reducible rfl)
              try simp only [Act.put, List.setIfInBounds_toArray, List.set_cons_zero, List.set_cons_succ]
              refine took 9 (v := ?_) rfl (by kernel_rfl) (by kernel_rfl) (by kernel_rfl) (by kernel_rfl) (fun _ _ _ h => h) (by rfl) (by assumption) ?_ ?_
              rotate_left
              · (intro W hSw; (try dsimp only at hSw); go_simp; first | done | with_reducible rfl)
              try simp only [Act.put, List.setIfInBounds_toArray, List.set_cons_zero, List.set_cons_succ]
              refine took 10 (v := ?_) rfl (by kernel_rfl) (by kernel_rfl) (by kernel_rfl) (by kernel_rfl) (fun _ _ _ h => h) (by rfl) (by assumption) ?_ ?_
              rotate_left
              · (intro W hSw; (try dsimp only at hSw); go_simp; first | done | with_reducible rfl)
              try simp only [Act.put, List.setIfInBounds_toArray, List.set_cons_zero, List.set_cons_succ]
              refine took 11 (v := ?_) rfl (by kernel_rfl) (by kernel_rfl) (by kernel_rfl) (by kernel_rfl) (fun _ _ _ h => h) (by rfl) (by assumption) ?_ ?_
              rotate_left
              · (intro W hSw; (try dsimp only at hSw); go_simp; first | done | with_reducible rfl)
              try simp only [Act.put, List.setIfInBounds_toArray, List.set_cons_zero, List.set_cons_succ]
              refine took 12 (v := ?_) rfl (by kernel_rfl) (by kernel_rfl) (by kernel_rfl) (by kernel_rfl) (fun _ _ _ h => h) (by rfl) (by assumption) ?_ ?_
              rotate_left
              · (intro W hSw; (try dsimp only at hSw); go_simp; first | done | with_reducible rfl)
              try simp only [Act.put, List.setIfInBounds_toArray, List.set_cons_zero, List.set_cons_succ]
              refine took 13 (v := ?_) rfl (by kernel_rfl) (by kernel_rfl) (by kernel_rfl) (by kernel_rfl) (fun _ _ _ h => h) (by rfl) (by assumption) ?_ ?_
              rotate_left
              · (intro W hSw; (try dsimp only at hSw); go_simp; first | done | with_reducible rfl)
              try simp only [Act.put, List.setIfInBounds_toArray, List.set_cons_zero, List.set_cons_succ]
              refine took 14 (v := ?_) rfl (by kernel_rfl) (by kernel_rfl) (by kernel_rfl) (by kernel_rfl) (fun _ _ _ h => h) (by rfl) (by assumption) ?_ ?_
              rotate_left
              · (intro W hSw; (try dsimp only at hSw); go_simp; first | done | with_reducible rfl)
              try simp only [Act.put, List.setIfInBounds_toArray, List.set_cons_zero, List.set_cons_succ]
              refine took 15 (v := ?_) rfl (by kernel_rfl) (by kernel_rfl) (by kernel_rfl) (by kernel_rfl) (fun _ _ _ h => h) (by rfl) (by assumption) ?_ ?_
              rotate_left
              · (intro W hSw; (try dsimp only at hSw); go_simp; first | done | with_reducible rfl)
              try simp only [Act.put, List.setIfInBounds_toArray, List.set_cons_zero, List.set_cons_succ]
              refine took 16 (v := ?_) rfl (by kernel_rfl) (by kernel_rfl) (by kernel_rfl) (by kernel_rfl) (fun _ _ _ h => h) (by rfl) (by assumption) ?_ ?_
              rotate_left
              · (intro W hSw; (try dsimp only at hSw); go_simp; first | done | with_reducible rfl)
              try simp only [Act.put, List.setIfInBounds_toArray, List.set_cons_zero, List.set_cons_succ]
              refine took 17 (v := ?_) rfl (by kernel_rfl) (by kernel_rfl) (by kernel_rfl) (by kernel_rfl) (fun _ _ _ h => h) (by rfl) (by assumption) ?_ ?_
              rotate_left
              · (intro W hSw; (try dsimp only at hSw); go_simp; first | done | with_reducible rfl)
              try simp only [Act.put, List.setIfInBounds_toArray, List.set_cons_zero, List.set_cons_succ]
              refine took 18 (v := ?_) rfl (by kernel_rfl) (by kernel_rfl) (by kernel_rfl) (by kernel_rfl) (fun _ _ _ h => h) (by rfl) (by assumption) ?_ ?_
              rotate_left
              · (intro W hSw; (try dsimp only at hSw); go_simp; first | done | with_reducible rfl)
              try simp only [Act.put, List.setIfInBounds_toArray, List.set_cons_zero, List.set_cons_succ]
              refine took 19 (v := ?_) rfl (by kernel_rfl) (by kernel_rfl) (by kernel_rfl) (by kernel_rfl) (fun _ _ _ h => h) (by rfl) (by assumption) ?_ ?_
              rotate_left
              · (intro W hSw; (try dsimp only at hSw); go_simp; first | done | with_reducible rfl)
              try simp only [Act.put, List.setIfInBounds_toArray, List.set_cons_zero, List.set_cons_succ]
              refine took 20 (v := ?_) rfl (by kernel_rfl) (by kernel_rfl) (by kernel_rfl) (by kernel_rfl) (fun _ _ _ h => h) (by rfl) (by assumption) ?_ ?_
              rotate_left
              · (intro W hSw; (try dsimp only at hSw); go_simp; first | done | with_reducible rfl)
              try simp only [Act.put, List.setIfInBounds_toArray, List.set_cons_zero, List.set_cons_succ]
              refine carried 21 rfl (by kernel_rfl) (by rfl) (fun K hK => ?_)
              go_simp
              (go_at_call 42; ((with_reducible refine (RM.out _).mono ?_); rintro e w' ⟨rfl, rfl⟩))
              refine hK.out _ _ (hHeld) (fun hHeld => ?_)
              clear hK K
              try simp only [Act.put, List.setIfInBounds_toArray, List.set_cons_zero, List.set_cons_succ]
              refine took 22 (v := ?_) rfl (by kernel_rfl) (by kernel_rfl) (by kernel_rfl) (by kernel_rfl) (fun _ _ _ h => h) (by rfl) (by assumption) ?_ ?_
              rotate_left
              · (intro W hSw; (try dsimp only at hSw); go_simp; first | done | with_reducible rfl)
              try simp only [Act.put, List.setIfInBounds_toArray, List.set_cons_zero, List.set_cons_succ]
              refine took 23 (v := ?_) rfl (by kernel_rfl) (by kernel_rfl) (by kernel_rfl) (by kernel_rfl) (fun _ _ _ h => h) (by rfl) (by assumption) ?_ ?_
              rotate_left
              · (intro W hSw; (try dsimp only at hSw); go_simp; first | done | with_reducible rfl)
              try simp only [Act.put, List.setIfInBounds_toArray, List.set_cons_zero, List.set_cons_succ]
              refine allDone (by kernel_rfl) ?_ _
              clear hHeld x0 x1 x2 y0 y1 y2
              go_wp2_with fail
              go_roundw
              case rel => exact ⟨kk + 1, by rw [Hen.out], by go_num, by omega, HB.out.drew, Hb6.out.drew, HO.out.drew⟩
              case measure => simp [intOf]; omega
            · have hkk : kk = K := by omega
              have hge : (K : Int) ≤ kk := by omega
              subst hkk
              have Pst := Lib.hid (PsI.out j hjl)
              have HX : Hid (B8 (E i j kk) = .int .u8 (((E i j kk).toNat : Nat) : Int)) := rfl
              have hx8 := (E i j kk).toNat_lt
              generalize (E i j kk).toNat = en at *
              have hm1 : m + j < 65025 := by omega
              obtain ⟨M1, hM1⟩ : ∃ M1, M1 = m + j := ⟨_, rfl⟩
              rw [← hM1] at Hb6 HO hm1 Pst
              have HM1 := Lib.hid hM1
              clear hM1
              have z2 : wr.cell? ⟨g6, 2, none⟩ = some (.slice A1 M1 c') := Hb6.out.cell 2
              have hb1 : M1 + 1 ≤ maxLen := by unfold maxLen; omega
              have hb2 : (M1 + 1) * 1 ≤ 140737488355328 := by omega
              have hgd : W0.heap.size ≤ wr.heap.size := HB.out.size
              have hg6' : W0.heap.size ≤ g6 := hg6
              go_wp2_with (at_builtin; refine wpList_append_any _ rfl (.tmp 74) (.tmp 76) 22 rfl W0.heap.size 5 i0 (.int .u8 0) 1 1 Try.underlying22 hi.out hz0.out hz1.out hz2.out rfl (by omega) A1 M1 c' _ rfl (HO.out.alloc (.cells #[.int .u8 (en : Int)] 5)) (wr.heap.size + 1) _ 1 1 _ rfl (reads_one wr _ _) (one_one rfl) hb1 hb2 (show W0.heap.size ≤ (wr.alloc (.cells #[.int .u8 (en : Int)] 5)).heap.size from Nat.le_trans hgd (by simp)) ?_; intro A3 c3 w4 ho4 hg4 _hs4; have ho5 := (HO.out.alloc (.cells #[.int .u8 (en : Int)] 5)); have hb4 : Blk w4 g6 24 _ := blk_grown (Hb6.out.alloc _) ho5 hg4; have hB4 : Below W0.heap.size W0 w4 := below_app (HB.out.alloc hgd (.cells #[.int .u8 (en : Int)] 5)) hg4 ho5 (show W0.heap.size ≤ (wr.alloc (.cells #[.int .u8 (en : Int)] 5)).heap.size from Nat.le_trans hgd (by simp)); have z24 : w4.cell? ⟨g6, 2, none⟩ = some (.slice A1 M1 c') := hb4.cell 2; have zf4 : w4.frozen? ⟨g6, 2, none⟩ = false := hb4.frozen 2; replace ho4 := Lib.hid ho4; replace hb4 := Lib.hid hb4; replace hB4 := Lib.hid hB4; clear hg4 _hs4 ho5)
              go_roundw
              case rel =>
                refine ⟨j + 1, c3, A3, by go_num, by omega, hB4.out.setCell (p := ⟨g6, 2, none⟩) hg6' _, ?_, ?_⟩
                · rw [show m + (j + 1) = M1 + 1 by rw [HM1.out]; omega]
                  exact hb4.out.set_ 2 (.slice A3 (M1 + 1) c3)
                · rw [show m + (j + 1) = M1 + 1 by rw [HM1.out]; omega, Pst.out, List.map_append, List.map_cons, List.map_nil, HX.out]
                  exact own_setM (j := 2) ho4.out hb4.out (.slice A3 (M1 + 1) c3)
              case measure => simp [intOf]; omega
        · have hjC2 : j = C := by omega
          have hge : (C : Int) ≤ j := by omega
          subst hjC2
          go_wp2_with fail
          go_roundw
          case rel => exact ⟨i + 1, c', A1, by go_num, by omega, HB, by rw [Hm1.out]; exact Hb6, by rw [Hm1.out]; exact HO⟩
          case measure => simp [intOf]; omega
    · have hiR2 : i = R := by omega
      have hge : (R : Int) ≤ i := by omega
      subst hiR2
      clear hlt hiR
      have Hb4 := Lib.hid (KB.out wr HB.out).2.2.2
      have HBw := Lib.hid (KB.out wr HB.out).1
      have hol : Hid ((P (i * C)).length = i * C) := Pl.out _
      replace HO := Lib.hid (own_base HO.out (Nat.le_of_lt hw0))
      have HO' : Hid (wr.ownsRow w.heap.size 5 1 (.slice A1 (P (i * C)).length c') (P (i * C)).length ((P (i * C)).map B8)) := by rw [hol.out]; exact HO.out
      have Hb6' : Hid (Blk wr g6 24 (mC i C (.slice A1 (P (i * C)).length c'))) := by rw [hol.out]; exact Hb6.out
      clear HO Hb6 hol
      go_wp2_with (first
        | (refine wpList_load_row rfl 24 _ rfl g6 rfl 24 (mC i C (.slice A1 (P (i * C)).length c')) (0, 0) _ Hb6'.out Try.underlying24 rfl info_ms ?_)
        | (refine wpList_store_row rfl 24 _ _ rfl g4 (mC i C (.slice A1 (P (i * C)).length c')) rfl rfl 24 (mC 0 0 (.slice none 0 0)) Hb4.out info_ms rfl (mC_one _ _ _ _ _) ?_))
      exact bodyPost_ret (results_cell_int rfl _ _ g4 (mC i C (.slice A1 (P (i * C)).length c')) (.int .i64 0) rfl rfl (run_loadVar_row _ g4 24 _ (mC i C (.slice A1 (P (i * C)).length c')) (0, 0) _ (Hb4.out.row _) Try.underlying24 rfl info_ms)) rfl ⟨A1, c', rfl, own_setRowM HO'.out Hb4.out _, below_row HBw.out (Nat.le_of_lt hg4) _⟩
end Go.Proofs.Ytbokbndphpdgoaa
