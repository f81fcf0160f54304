/-
  The product of matrices, walked.
-/
import Derived.Test.YtbokbndphpdgoaaMatc
namespace Go.Proofs.Ytbokbndphpdgoaa
set_option linter.unusedSimpArgs false
set_option linter.unusedVariables false
open Go.RowKit

/-- the sum of the first k products -/
def dotK (a b : Nat → Nat → UInt8) (i j : Nat) : Nat → UInt8
  | 0 => 0
  | k + 1 => dotK a b i j k ^^^ fm (a i k) (b k j)
/-- the product's cells -/
def mulC (xa xb : List UInt8) (R K C : Nat) : List UInt8 := cellsTo C (fun i j => dotK (cellAt xa K) (cellAt xb C) i j K) (R * C)
/-- the product on the way: rows before i are done, of row i k sums are there -/
def mst (a b : Nat → Nat → UInt8) (K i k i' j : Nat) : UInt8 := if i' < i then dotK a b i' j K else if i' = i then dotK a b i' j k else 0

theorem zero1_any (i j : Int) (w : World) : Calls Try.prog 40 #[.int .i64 i, .int .i64 j] w fun e w' => e = .returned (.int .u8 (((0 : UInt8).toNat : Nat) : Int)) ∧ w = w' := by
  go_enter Try.func40, Try.ntmps40
  go_wp2_with fail
  go_ret
  exact ⟨rfl, rfl⟩

/-- three boxes in a row -/
theorem blk3 (w : World) (t1 t2 t3 : TypeId) (c1 c2 c3 : Array Value) :
    Blk (((w.alloc (.cells c1 t1)).alloc (.cells c2 t2)).alloc (.cells c3 t3)) w.heap.size t1 c1 ∧ Blk (((w.alloc (.cells c1 t1)).alloc (.cells c2 t2)).alloc (.cells c3 t3)) (w.heap.size + 1) t2 c2 ∧
    Blk (((w.alloc (.cells c1 t1)).alloc (.cells c2 t2)).alloc (.cells c3 t3)) (w.heap.size + 1 + 1) t3 c3 ∧ Below w.heap.size w (((w.alloc (.cells c1 t1)).alloc (.cells c2 t2)).alloc (.cells c3 t3)) := by
  refine ⟨((Blk.new w t1 c1).alloc _).alloc _, ?_, ?_, (((Below.refl _ _).alloc (Nat.le_refl _) _).alloc (by simp) _).alloc (by simp; omega) _⟩
  · have h := (Blk.new (w.alloc (.cells c1 t1)) t2 c2).alloc (.cells c3 t3)
    simpa using h
  · have h := Blk.new ((w.alloc (.cells c1 t1)).alloc (.cells c2 t2)) t3 c3
    simpa using h
theorem mst_zero (a b : Nat → Nat → UInt8) (K C R : Nat) : cellsTo C (fun _ _ => 0) (R * C) = cellsTo C (mst a b K 0 0) (R * C) := by
  apply cellsTo_congr
  intro i j _ _
  unfold mst
  rw [if_neg (by omega)]
  split <;> rfl
theorem mst_next (a b : Nat → Nat → UInt8) (K i C R : Nat) : cellsTo C (mst a b K i K) (R * C) = cellsTo C (mst a b K (i + 1) 0) (R * C) := by
  apply cellsTo_congr
  intro i' j _ _
  unfold mst
  by_cases h1 : i' < i
  · rw [if_pos h1, if_pos (by omega)]
  · rw [if_neg h1]
    by_cases h2 : i' = i
    · rw [if_pos h2, if_pos (by omega)]
    · rw [if_neg h2, if_neg (by omega)]
      split <;> rfl
theorem mst_end (a b : Nat → Nat → UInt8) (K C R : Nat) : cellsTo C (mst a b K R 0) (R * C) = cellsTo C (fun i j => dotK a b i j K) (R * C) := by
  apply cellsTo_congr
  intro i' j hi _
  unfold mst
  rw [if_pos hi]
theorem mst_row (a b : Nat → Nat → UInt8) (K i k C R : Nat) (hi : i < R) : rowC (cellsTo C (mst a b K i k) (R * C)) C i = rowF C (fun j => dotK a b i j k) := by
  rw [rowC_cellsTo R C i _ hi]
  congr 1
  funext j
  unfold mst
  rw [if_neg (by omega), if_pos rfl]
theorem mst_put (a b : Nat → Nat → UInt8) (K i k C R : Nat) (hi : i < R) : splice (cellsTo C (mst a b K i k) (R * C)) (i * C) (rowF C (fun j => dotK a b i j (k + 1))) = cellsTo C (mst a b K i (k + 1)) (R * C) := by
  rw [put_cellsTo R C i _ _ hi]
  apply cellsTo_congr
  intro i' j _ _
  unfold mst
  by_cases h1 : i' = i
  · subst h1
    rw [if_pos rfl, if_neg (by omega), if_pos rfl]
  · rw [if_neg h1, if_neg h1, if_neg h1]

set_option maxRecDepth 100000 in
set_option maxHeartbeats 8000000 in
theorem mul_in (R K C : Nat) (A A' : Option Addr) (n k n' k' : Nat) (xa xb : List UInt8) (w : World) (hR : R ≤ 255) (hK : K ≤ 255) (hC : C ≤ 255) (hn : n = R * K) (hnk : n ≤ k) (hn' : n' = K * C) (hnk' : n' ≤ k')
    (h : Reads w w.heap.size 1 A n (xa.map B8)) (h' : Reads w w.heap.size 1 A' n' (xb.map B8)) :
    Calls Try.prog 27 #[.agg #[.int .i64 R, .int .i64 K, .slice A n k], .agg #[.int .i64 K, .int .i64 C, .slice A' n' k']] w (MRet w R C (mulC xa xb R K C) 0) := by
  have M1 := fun W => Lib.hid (may_any R K A n k W)
  have M2 := fun W => Lib.hid (may_any K C A' n' k' W)
  unfold mC at M1 M2
  have hm1 : Matp.may (R : Int) (K : Int) n = true := by
    unfold Matp.may; rw [hn, Int.natCast_mul]; simp; omega
  have hm2 : Matp.may (K : Int) (C : Int) n' = true := by
    unfold Matp.may; rw [hn', Int.natCast_mul]; simp; omega
  rw [hm1] at M1
  rw [hm2] at M2
  have hal : xa.length = R * K := by have := h.len; omega
  have hbl : xb.length = K * C := by have := h'.len; omega
  have hz := (zero_of_info info_m).1
  have MZ := fun W => made_zero R C (fun _ _ => 0) W hR hC (fun i j W' _ _ _ => zero1_any i j W')
  obtain ⟨X, hX⟩ : ∃ X : Nat → Nat → List UInt8, X = fun i k => cellsTo C (mst (cellAt xa K) (cellAt xb C) K i k) (R * C) := ⟨_, rfl⟩
  obtain ⟨D, hD⟩ : ∃ D : Nat → Nat → List UInt8, D = fun i k => rowF C (fun j => dotK (cellAt xa K) (cellAt xb C) i j k) := ⟨_, rfl⟩
  have X0 : cellsTo C (fun _ _ => 0) (R * C) = X 0 0 := by rw [hX]; exact mst_zero _ _ K C R
  have Xn : Hid (∀ i, X i K = X (i + 1) 0) := fun i => by rw [hX]; exact mst_next _ _ K i C R
  have Xe : Hid (mulC xa xb R K C = X R 0) := by rw [hX]; exact (mst_end _ _ K C R).symm
  have Xr : Hid (∀ i k, i < R → rowC (X i k) C i = D i k) := fun i k hi => by rw [hX, hD]; exact mst_row _ _ K i k C R hi
  have Xp : Hid (∀ i k, i < R → splice (X i k) (i * C) (D i (k + 1)) = X i (k + 1)) := fun i k hi => by rw [hX, hD]; exact mst_put _ _ K i k C R hi
  have Dl : Hid (∀ i k, (D i k).length = C) := fun i k => by rw [hD]; exact rowF_len _ _
  have Xl : Hid (∀ i k, (X i k).length = R * C) := fun i k => by rw [hX]; exact cellsTo_len _ _ _
  have Ds : Hid (∀ i k b, i < R → k < K → (rowC xa K i)[k]? = some b → addR (D i k) b (rowC xb C k) = D i (k + 1) ∧ eLen (D i k) (rowC xb C k) = 0) := fun i k b hi hk hb => by
    rw [rowC_at xa R K i hal hi, rowF_get _ _ _ hk] at hb
    injection hb with hb
    rw [rowC_at xb K C k hbl hk, ← hb]
    unfold addR eLen
    rw [Dl.out i k, rowF_len, if_pos rfl, if_pos rfl, hD]
    exact ⟨addL_rowF _ _ _ _, rfl⟩
  rw [X0] at MZ
  rw [Xe.out]
  obtain ⟨N, hN⟩ : ∃ N, N = R * C := ⟨_, rfl⟩
  have hRCb : R * C ≤ 65025 := rc_le hR hC
  rw [← hN] at MZ Xl hRCb
  have HN := Lib.hid hN
  have RZ := Lib.hid (fun (i c : Nat) (Az : Option Addr) (W : World) (hi : i < R) (hc : N ≤ c) => row_any R C i Az N c W hR hC hi hN hc)
  have RRZ := Lib.hid (fun (i k c : Nat) (Az : Option Addr) (W : World) (hi : i < R) (hc : N ≤ c) (ho : W.ownsRow W.heap.size 5 1 (.slice Az N c) N ((X i k).map B8) ∨ Reads W W.heap.size 1 Az N ((X i k).map B8)) => show Reads W W.heap.size 1 (cutA Az c (i * C) 1) C ((D i k).map B8) by
    rw [← Xr.out i k hi]
    exact row_reads (ho.elim Reads.of_own id) hN hi hc)
  have Off := Lib.hid (fun (i : Nat) (hi : i < R) => show i * C + C ≤ N by
    have hle : (i + 1) * C ≤ R * C := Nat.mul_le_mul_right _ hi
    rw [Nat.succ_mul] at hle
    omega)
  unfold mC at MZ
  replace MZ := fun W => Lib.hid (MZ W)
  have hMsz : (Try.prog.info? 5).map (·.size) = some 1 := by kernel_rfl
  replace hMsz := Lib.hid hMsz
  clear X0 hX hD hal hbl hN
  have RA := Lib.hid (fun (i : Nat) (W : World) (hi : i < R) => row_any R K i A n k W hR hK hi hn hnk)
  have RB := Lib.hid (fun (i : Nat) (W : World) (hi : i < K) => row_any K C i A' n' k' W hK hC hi hn' hnk')
  have RRA := Lib.hid (fun (i : Nat) (W : World) (hi : i < R) (hB : Below w.heap.size w W) => row_reads (i := i) (h.below hB) hn hi hnk)
  have RRB := Lib.hid (fun (i : Nat) (W : World) (hi : i < K) (hB : Below w.heap.size w W) => row_reads (i := i) (h'.below hB) hn' hi hnk')
  clear hm1 hm2 h h' hn hnk hn' hnk'
  go_enter Try.func27, Try.ntmps27
  go_wp2_with fail
  obtain ⟨hb2, hb3, hb4, hB0⟩ := blk3 w 24 24 24 #[.int .i64 R, .int .i64 K, .slice A n k] #[.int .i64 K, .int .i64 C, .slice A' n' k'] #[.int .i64 0, .int .i64 0, .slice none 0 0]
  generalize ((w.alloc (.cells #[.int .i64 R, .int .i64 K, .slice A n k] 24)).alloc (.cells #[.int .i64 K, .int .i64 C, .slice A' n' k'] 24)).alloc (.cells #[.int .i64 0, .int .i64 0, .slice none 0 0] 24) = W0 at *
  have hg3 : w.heap.size < w.heap.size + 1 := Nat.lt_succ_self _
  have hg4 : w.heap.size < w.heap.size + 1 + 1 := by omega
  generalize w.heap.size + 1 + 1 = g4 at *
  generalize w.heap.size + 1 = g3 at *
  have hl4 : g4 < W0.heap.size := hb4.lt
  have hw0 : w.heap.size < W0.heap.size := hb2.lt
  have KB : Hid (∀ W, Below W0.heap.size W0 W → Below w.heap.size w W ∧ Blk W w.heap.size 24 (mC R K (.slice A n k)) ∧ Blk W g3 24 (mC K C (.slice A' n' k')) ∧ Blk W g4 24 (mC 0 0 (.slice none 0 0))) := fun W hW =>
    ⟨hB0.trans (hW.mono hB0.size), hb2.below hW hb2.lt, hb3.below hW hb3.lt, hb4.below hW hb4.lt⟩
  have C2 : Hid (∀ W, Below W0.heap.size W0 W → W.cell? ⟨w.heap.size, 0, none⟩ = some (.int .i64 R) ∧ W.cell? ⟨w.heap.size, 1, none⟩ = some (.int .i64 K) ∧ W.cell? ⟨w.heap.size, 2, none⟩ = some (.slice A n k)) := fun W hW => ⟨(KB.out W hW).2.1.cell 0, (KB.out W hW).2.1.cell 1, (KB.out W hW).2.1.cell 2⟩
  have C3 : Hid (∀ W, Below W0.heap.size W0 W → W.cell? ⟨g3, 0, none⟩ = some (.int .i64 K) ∧ W.cell? ⟨g3, 1, none⟩ = some (.int .i64 C) ∧ W.cell? ⟨g3, 2, none⟩ = some (.slice A' n' k')) := fun W hW => ⟨(KB.out W hW).2.2.1.cell 0, (KB.out W hW).2.2.1.cell 1, (KB.out W hW).2.2.1.cell 2⟩
  clear hb2 hb3 hb4 hB0
  refine (M1 _).out.mono ?_; rintro e w1 ⟨rfl, hB1⟩
  obtain ⟨y0, y1, y2⟩ := C3.out w1 hB1
  replace hB1 := Lib.hid hB1
  go_wp2_with fail
  refine (M2 _).out.mono ?_; rintro e w2 ⟨rfl, hB2⟩
  have HB2 := Lib.hid (below_then hB1.out hB2)
  clear hB1 hB2 y0 y1 y2
  obtain ⟨x0, x1, x2⟩ := C2.out w2 HB2.out
  obtain ⟨y0, y1, y2⟩ := C3.out w2 HB2.out
  go_wp2_with fail
  refine (MZ _).out.mono ?_; rintro e w3 ⟨Az, cz, rfl, ho3, hB3⟩
  clear x0 x1 x2 y0 y1 y2
  have HB3 := below_then HB2.out hB3
  have hNc : N ≤ cz := (own_cap ho3).1
  replace ho3 := own_base ho3 HB2.out.size
  have hW03 := HB3.size
  have hb6 : Blk (w3.alloc (.cells #[.int .i64 R, .int .i64 C, .slice Az N cz] 24)) w3.heap.size 24 (mC R C (.slice Az N cz)) := Blk.new _ _ _
  have ho6 := ho3.alloc (.cells #[.int .i64 R, .int .i64 C, .slice Az N cz] 24)
  have hB6 := below_alloc HB3 (.cells #[.int .i64 R, .int .i64 C, .slice Az N cz] 24)
  obtain ⟨x0, -, -⟩ := C2.out w3 HB3
  have hz3 : w.heap.size < w3.heap.size := by omega
  go_wp2_with fail
  clear x0 hz3
  generalize w3.alloc (.cells #[.int .i64 R, .int .i64 C, .slice Az N cz] 24) = w6 at *
  generalize w3.heap.size = g6 at *
  replace hb6 := Lib.hid hb6; replace ho6 := Lib.hid ho6; replace hB6 := Lib.hid hB6
  clear HB3 ho3 HB2 hB3
  go_loopw [36] (fun v36 wr => ∃ (i : Nat), v36 = .int .i64 i ∧ i ≤ R ∧ Hid (Below W0.heap.size W0 wr) ∧ Hid (Blk wr g6 24 (mC R C (.slice Az N cz))) ∧ Hid (wr.ownsRow W0.heap.size 5 1 (.slice Az N cz) N ((X i 0).map B8))) (fun v36 _ => R - (intOf v36).toNat)
  case atStart => exact ⟨0, rfl, by omega, hB6, hb6, ho6⟩
  case round =>
    clear hb6 ho6 hB6
    obtain ⟨i, rfl, hiR, HB, Hb6, HO⟩ := hrel
    by_cases hlt : i < R
    · have hlt' : (i : Int) < R := by omega
      obtain ⟨z0, z1, z2⟩ : wr.cell? ⟨g6, 0, none⟩ = some (.int .i64 R) ∧ wr.cell? ⟨g6, 1, none⟩ = some (.int .i64 C) ∧ wr.cell? ⟨g6, 2, none⟩ = some (.slice Az N cz) := ⟨Hb6.out.cell 0, Hb6.out.cell 1, Hb6.out.cell 2⟩
      have RZi := Lib.hid (fun W => RZ.out i cz Az W hlt hNc)
      have RAi := Lib.hid (fun W => RA.out i W hlt)
      have RRAi := Lib.hid (fun W hB => RRA.out i W hlt hB)
      have OffI := Lib.hid (Off.out i hlt)
      go_wp2_with fail
      refine (RZi.out _).mono ?_; rintro e w7 ⟨rfl, hB7⟩
      have HB7 := Lib.hid (below_then HB.out hB7)
      have Hb67 := Lib.hid (Hb6.out.below hB7 Hb6.out.lt)
      have HO7 := Lib.hid (own_belowL HO.out hB7)
      clear hB7 z0 z1 z2 HB Hb6 HO
      obtain ⟨x0, x1, x2⟩ := C2.out w7 HB7.out
      go_wp2_with fail
      refine (RAi.out _).mono ?_; rintro e w8 ⟨rfl, hB8⟩
      have HB8 := Lib.hid (below_then HB7.out hB8)
      have Hb68 := Lib.hid (Hb67.out.below hB8 Hb67.out.lt)
      have HO8 := Lib.hid (own_belowL HO7.out hB8)
      clear hB8 x0 x1 x2 HB7 Hb67 HO7 RAi
      generalize cutA A k (i * K) 1 = Ar at *
      generalize k - i * K = kr at *
      go_wp2_with fail
      go_loopw [46] (fun v46 wr => ∃ (kk : Nat), v46 = .int .i64 kk ∧ kk ≤ K ∧ Hid (Below W0.heap.size W0 wr) ∧ Hid (Blk wr g6 24 (mC R C (.slice Az N cz))) ∧ Hid (wr.ownsRow W0.heap.size 5 1 (.slice Az N cz) N ((X i kk).map B8))) (fun v46 _ => K - (intOf v46).toNat)
      case atStart => exact ⟨0, rfl, by omega, HB8, Hb68, HO8⟩
      case round =>
        clear HB8 Hb68 HO8
        obtain ⟨kk, rfl, hkK, HB, Hb6, HO⟩ := hrel
        by_cases hkl : kk < K
        · have hkl' : (kk : Int) < K := by omega
          obtain ⟨ad, b, hA2, hblk2, hb', ec⟩ := (RRAi.out wr (KB.out wr HB.out).1).byte (k := kk) hkl
          subst hA2
          obtain ⟨y0, y1, y2⟩ := C3.out wr HB.out
          have RBk := Lib.hid (fun W => RB.out kk W hkl)
          have RRBk := Lib.hid (fun W hB => RRB.out kk W hkl hB)
          have AD : Hid (∀ W, Reads W W.heap.size 1 (cutA Az cz (i * C) 1) C ((D i kk).map B8) → Below w.heap.size w W → Calls Try.prog 41 #[.slice (cutA Az cz (i * C) 1) C (cz - i * C), .int .u8 (b.toNat : Int), .slice (cutA A' k' (kk * C) 1) C (k' - kk * C)] W (SlErrN 5 W C (D i (kk + 1)) 0)) := fun W h1 h2 => by
            have h3 := Gfb.add_any (cutA Az cz (i * C) 1) (cutA A' k' (kk * C) 1) C C (cz - i * C) (k' - kk * C) (D i kk) (rowC xb C kk) b W h1 ((RRBk.out W h2).more h2.size) (by omega) (by omega)
            obtain ⟨e1, e2⟩ := Ds.out i kk b hlt hkl hb'
            rw [e1, e2, SlErrN_eq (Dl.out i (kk + 1))] at h3
            exact h3
          have hx8 := b.toNat_lt
          generalize b.toNat = bn at *
          clear hb' hblk2
          go_wp2_with fail
          refine (RBk.out _).mono ?_; rintro e w9 ⟨rfl, hB9⟩
          have HB9 := Lib.hid (below_then HB.out hB9)
          have Hb69 := Lib.hid (Hb6.out.below hB9 Hb6.out.lt)
          have HO9 := Lib.hid (own_belowL HO.out hB9)
          clear hB9 y0 y1 y2 HB Hb6 HO ec
          go_wp2_with fail
          refine (AD.out _ (RRZ.out i kk cz Az w9 hlt hNc (Or.inr (Reads.of_own HO9.out))) (KB.out w9 HB9.out).1).mono ?_; rintro e w10 ⟨As, cs, rfl, hfr⟩
          have HR10 := Lib.hid hfr.reads
          have HB10 := Lib.hid (below_then HB9.out hfr.below)
          have Hb610 := Lib.hid (Hb69.out.below hfr.below Hb69.out.lt)
          have HO10 := Lib.hid (own_belowL HO9.out hfr.below)
          clear hfr AD HB9 Hb69 HO9
          go_wp2_with (refine wpList_copy_in rfl (.tmp 60) (.tmp 61) 22 22 rfl 5 Try.underlying22 hMsz.out Az N cz (i * C) C W0.heap.size _ _ rfl HO10.out OffI.out As cs rfl w10.heap.size _ HR10.out (row_one HR10.out) ?_; intro w11 ho11 hg11)
          go_roundw
          case rel =>
            refine ⟨kk + 1, by go_num, by omega, below_app HB10.out hg11 HO10.out HB10.out.size, blk_grown Hb610.out HO10.out hg11, ?_⟩
            rw [← Xp.out i kk hlt, splice_map]
            exact ho11
          case measure => simp [intOf]; omega
        · have hkk : kk = K := by omega
          have hge : (K : Int) ≤ kk := by omega
          subst hkk
          rw [Xn.out i] at HO
          go_wp2_with fail
          go_roundw
          case rel => exact ⟨i + 1, by go_num, by omega, HB, Hb6, HO⟩
          case measure => simp [intOf]; omega
    · have hiR2 : i = R := by omega
      have hge : (R : Int) ≤ i := by omega
      subst hiR2
      clear hlt hiR
      have Hb4 := Lib.hid (KB.out wr HB.out).2.2.2
      have HBw := Lib.hid (KB.out wr HB.out).1
      have hol : Hid ((X i 0).length = N) := by have h := HO.out.1; unfold Hid; simpa using h
      replace HO := Lib.hid (own_base HO.out (Nat.le_of_lt hw0))
      rw [← hol.out] at HO Hb6
      go_wp2_with (first
        | (refine wpList_load_row rfl 24 _ rfl g6 rfl 24 (mC i C (.slice Az (X i 0).length cz)) (0, 0) _ Hb6.out Try.underlying24 rfl info_ms ?_)
        | (refine wpList_store_row rfl 24 _ _ rfl g4 (mC i C (.slice Az (X i 0).length cz)) rfl rfl 24 (mC 0 0 (.slice none 0 0)) Hb4.out info_ms rfl (mC_one _ _ _ _ _) ?_))
      exact bodyPost_ret (results_cell_int rfl _ _ g4 (mC i C (.slice Az (X i 0).length cz)) (.int .i64 0) rfl rfl (run_loadVar_row _ g4 24 _ (mC i C (.slice Az (X i 0).length cz)) (0, 0) _ (Hb4.out.row _) Try.underlying24 rfl info_ms)) rfl ⟨Az, cz, rfl, own_setRowM HO.out Hb4.out _, below_row HBw.out (Nat.le_of_lt hg4) _⟩
end Go.Proofs.Ytbokbndphpdgoaa
