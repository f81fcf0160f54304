/-
  A row of a matrix; rows that are picked: walked.
-/
import Derived.Test.YtbokbndphpdgoaaMatm
namespace Go.Proofs.Ytbokbndphpdgoaa
set_option linter.unusedSimpArgs false
set_option linter.unusedVariables false
open Go.RowKit

set_option maxRecDepth 100000 in
theorem row_any (R C i : Nat) (A : Option Addr) (n k : Nat) (w : World) (hR : R ≤ 255) (hC : C ≤ 255) (hi : i < R) (hn : n = R * C) (hnk : n ≤ k) :
    Calls Try.prog 39 #[.agg #[.int .i64 R, .int .i64 C, .slice A n k], .int .i64 i] w fun e w' => e = .returned (.slice (cutA A k (i * C) 1) C (k - i * C)) ∧ Below w.heap.size w w' := by
  have hle : (i + 1) * C ≤ R * C := Nat.mul_le_mul_right _ hi
  have hrc := rc_le hR hC
  obtain ⟨i0, hin, hz0, hz1, hz2⟩ := info_parts info_u8
  obtain ⟨p, hp⟩ : ∃ p, p = i * C := ⟨_, rfl⟩
  have hq : (i + 1) * C = p + C := by rw [hp, Nat.succ_mul]
  have hm1 : (i : Int) * (C : Int) = (p : Int) := by rw [hp, Int.natCast_mul]
  have hm2 : ((i : Int) + 1) * (C : Int) = ((p + C : Nat) : Int) := by rw [← hq, Int.natCast_mul]; rfl
  obtain ⟨q, hqq⟩ : ∃ q, q = p + C := ⟨_, rfl⟩
  rw [← hqq] at hm2
  have hsl := run_cut_lh (P := Try.prog) 22 5 i0 1 Try.underlying22 hin hz1 A n k p q .i64 .i64 (by omega) (by omega)
  rw [← hp]
  have hpb : q ≤ 65025 := by omega
  have hpp : p ≤ 65025 := by omega
  have hqC : q - p = C := by omega
  rw [hqC] at hsl
  have hB : ∀ o, Below w.heap.size w (w.alloc o) := fun o => (Below.refl _ _).alloc (Nat.le_refl _) o
  replace hB := Lib.hid hB
  clear hp hq hle hin hz0 hz1 hz2 hn hnk hqq hqC
  go_enter Try.func39, Try.ntmps39
  go_wp2_with fail
  go_ret
  exact ⟨rfl, hB.out _⟩

/-- a row of the cells -/
def rowC (bs : List UInt8) (C i : Nat) : List UInt8 := (bs.drop (i * C)).take C
theorem rowC_len (bs : List UInt8) (R C i : Nat) (h : bs.length = R * C) (hi : i < R) : (rowC bs C i).length = C := by
  have hle : (i + 1) * C ≤ R * C := Nat.mul_le_mul_right _ hi
  rw [Nat.succ_mul] at hle
  unfold rowC
  rw [List.length_take, List.length_drop]; omega
theorem row_reads {w : World} {B n k R C i : Nat} {A : Option Addr} {bs : List UInt8} (h : Reads w B 1 A n (bs.map B8)) (hn : n = R * C) (hi : i < R) (hnk : n ≤ k) : Reads w B 1 (cutA A k (i * C) 1) C ((rowC bs C i).map B8) := by
  have hle : (i + 1) * C ≤ R * C := Nat.mul_le_mul_right _ hi
  rw [Nat.succ_mul] at hle
  exact (h.cutN (k := i * C) (by omega) hnk).takeN (by omega)

/-- the rows that are picked, as long as they may be -/
def pickGo (bs : List UInt8) (R C : Nat) : List Int → List UInt8 → Option (List UInt8)
  | [], out => some out
  | x :: r, out => if 0 ≤ x ∧ x < (R : Int) then pickGo bs R C r (out ++ rowC bs C x.toNat) else none
/-- what the document says of rows that are picked: rows, columns, cells and the error's number -/
def pick (r c : Int) (bs : List UInt8) (rows : List Int) : Nat × Nat × List UInt8 × Int :=
  if Matp.may r c bs.length = true ∧ rows.length ≤ 255 then
    match pickGo bs r.toNat c.toNat rows [] with
    | some out => (rows.length, c.toNat, out, 0)
    | none => (0, 0, [], 13)
  else (0, 0, [], 13)
theorem may_nat {r c : Int} {n : Nat} (h : Matp.may r c n = true) : ∃ R C : Nat, r = (R : Int) ∧ c = (C : Int) ∧ R ≤ 255 ∧ C ≤ 255 ∧ n = R * C := by
  unfold Matp.may at h
  simp only [decide_eq_true_eq] at h
  obtain ⟨⟨h1, h2⟩, ⟨h3, h4⟩, h5⟩ := h
  refine ⟨r.toNat, c.toNat, by omega, by omega, by omega, by omega, ?_⟩
  have e1 : r = (r.toNat : Int) := by omega
  have e2 : c = (c.toNat : Int) := by omega
  rw [e1, e2, ← Int.natCast_mul] at h5
  exact_mod_cast h5
theorem ints_cells {w : World} {B n : Nat} {A : Option Addr} {xs : List Int} (h : Reads w B 1 A n (xs.map I64)) (hn : 0 < n) : ∃ ad, A = some ad ∧ ∀ j (hj : j < xs.length), w.cell? (ad.add j) = some (.int .i64 xs[j]) := by
  obtain ⟨ad, hA, _, hc⟩ := h.2 hn
  exact ⟨ad, hA, fun j hj => hc j (I64 xs[j]) (by rw [List.getElem?_map, List.getElem?_eq_getElem hj]; rfl)⟩
theorem mC_eq (r c : Int) (v : Value) : (#[.int .i64 r, .int .i64 c, v] : Array Value) = mC r c v := rfl

set_option maxRecDepth 100000 in
theorem pick_bad (r c : Int) (A A' : Option Addr) (n k n' k' : Nat) (w : World) (h : ¬ (Matp.may r c n = true ∧ n' ≤ 255)) :
    Calls Try.prog 25 #[.agg #[.int .i64 r, .int .i64 c, .slice A n k], .slice A' n' k'] w (MRet w 0 0 [] 13) := by
  have M := fun W => Lib.hid (may_any r c A n k W)
  unfold mC at M
  have hz := (zero_of_info info_m).1
  by_cases hm : Matp.may r c n = true
  · have hn : (255 : Int) < n' := by
      rcases Nat.lt_or_ge 255 n' with h1 | h1
      · omega
      · exact absurd ⟨hm, h1⟩ h
    rw [hm] at M
    clear h hm
    go_enter Try.func25, Try.ntmps25
    go_wp2_with fail
    refine (M _).out.mono ?_; rintro e w1 ⟨rfl, hB1⟩
    have hb4 : Blk w1 (w.heap.size + 1) 24 (mC 0 0 (.slice none 0 0)) := by
      refine Blk.below ?_ hB1 (by simp)
      have h := Blk.new (w.alloc (.cells #[.int .i64 r, .int .i64 c, .slice A n k] 24)) 24 (mC 0 0 (.slice none 0 0))
      simpa [mC] using h
    have HB1 := Lib.hid (((Below.refl w.heap.size w).alloc (Nat.le_refl _) (.cells #[.int .i64 r, .int .i64 c, .slice A n k] 24)).alloc (by simp) (.cells #[.int .i64 0, .int .i64 0, .slice none 0 0] 24) |>.trans (hB1.mono (by simp; omega)))
    replace hb4 := Lib.hid hb4
    clear hB1
    go_wp2_with (refine wpList_store_row rfl 24 _ _ rfl (w.heap.size + 1) (mC 0 0 (.slice none 0 0)) rfl rfl 24 (mC 0 0 (.slice none 0 0)) hb4.out info_ms rfl (mC_one _ _ _ _ _) ?_)
    exact bodyPost_ret (results_cell_int rfl _ _ (w.heap.size + 1) (mC 0 0 (.slice none 0 0)) (.int .i64 13) rfl rfl (run_loadVar_row _ (w.heap.size + 1) 24 _ (mC 0 0 (.slice none 0 0)) (0, 0) _ (hb4.out.row _) Try.underlying24 rfl info_ms)) rfl ⟨none, 0, rfl, World.ownsRow_nil _ _ _ 1, below_row HB1.out (Nat.le_succ _) _⟩
  · have hm' : Matp.may r c n = false := by simpa using hm
    rw [hm'] at M
    clear h hm hm'
    go_enter Try.func25, Try.ntmps25
    go_wp2_with fail
    refine (M _).out.mono ?_; rintro e w1 ⟨rfl, hB1⟩
    have hb4 : Blk w1 (w.heap.size + 1) 24 (mC 0 0 (.slice none 0 0)) := by
      refine Blk.below ?_ hB1 (by simp)
      have h := Blk.new (w.alloc (.cells #[.int .i64 r, .int .i64 c, .slice A n k] 24)) 24 (mC 0 0 (.slice none 0 0))
      simpa [mC] using h
    have HB1 := Lib.hid (((Below.refl w.heap.size w).alloc (Nat.le_refl _) (.cells #[.int .i64 r, .int .i64 c, .slice A n k] 24)).alloc (by simp) (.cells #[.int .i64 0, .int .i64 0, .slice none 0 0] 24) |>.trans (hB1.mono (by simp; omega)))
    replace hb4 := Lib.hid hb4
    clear hB1
    go_wp2_with (refine wpList_store_row rfl 24 _ _ rfl (w.heap.size + 1) (mC 0 0 (.slice none 0 0)) rfl rfl 24 (mC 0 0 (.slice none 0 0)) hb4.out info_ms rfl (mC_one _ _ _ _ _) ?_)
    exact bodyPost_ret (results_cell_int rfl _ _ (w.heap.size + 1) (mC 0 0 (.slice none 0 0)) (.int .i64 13) rfl rfl (run_loadVar_row _ (w.heap.size + 1) 24 _ (mC 0 0 (.slice none 0 0)) (0, 0) _ (hb4.out.row _) Try.underlying24 rfl info_ms)) rfl ⟨none, 0, rfl, World.ownsRow_nil _ _ _ 1, below_row HB1.out (Nat.le_succ _) _⟩
theorem pickGo_step (bs : List UInt8) (R C : Nat) (xs : List Int) (j : Nat) (hj : j < xs.length) (out : List UInt8) : pickGo bs R C (xs.drop j) out = if 0 ≤ xs[j] ∧ xs[j] < (R : Int) then pickGo bs R C (xs.drop (j + 1)) (out ++ rowC bs C xs[j].toNat) else none := by
  rw [List.drop_eq_getElem_cons hj]; rfl
theorem row_one {w : World} {B n : Nat} {A : Option Addr} {bs : List UInt8} (_h : Reads w B 1 A n (bs.map B8)) : ∀ u ∈ bs.map B8, u.oneCell' = true := by
  intro u hu
  obtain ⟨b, _, rfl⟩ := List.mem_map.1 hu
  rfl

set_option maxRecDepth 100000 in
set_option maxHeartbeats 4000000 in
theorem pick_in (R C : Nat) (A A' : Option Addr) (n k n' k' : Nat) (bs : List UInt8) (xs : List Int) (w : World) (hR : R ≤ 255) (hC : C ≤ 255) (hn : n = R * C) (hnk : n ≤ k) (h255 : n' ≤ 255)
    (h : Reads w w.heap.size 1 A n (bs.map B8)) (h' : Reads w w.heap.size 1 A' n' (xs.map I64)) (P0 : Ending → World → Prop)
    (hS : ∀ out, pickGo bs R C xs [] = some out → ∀ e w', MRet w n' C out 0 e w' → P0 e w') (hN : pickGo bs R C xs [] = none → ∀ e w', MRet w 0 0 [] 13 e w' → P0 e w') :
    Calls Try.prog 25 #[.agg #[.int .i64 R, .int .i64 C, .slice A n k], .slice A' n' k'] w P0 := by
  have M := fun W => Lib.hid (may_any R C A n k W)
  unfold mC at M
  have hm : Matp.may (R : Int) (C : Int) n = true := by
    unfold Matp.may; rw [hn, Int.natCast_mul]; simp; omega
  rw [hm] at M
  have hl : xs.length = n' := by have := h'.1; simpa using this
  have hbl : bs.length = R * C := by have := h.len; omega
  have hz := (zero_of_info info_m).1
  obtain ⟨i0, hi, hz0, hz1, hz2⟩ := info_parts info_u8
  replace hi := Lib.hid hi; replace hz0 := Lib.hid hz0; replace hz1 := Lib.hid hz1; replace hz2 := Lib.hid hz2
  replace hS := Lib.hid hS; replace hN := Lib.hid hN
  have RA := Lib.hid (fun (i : Nat) (W : World) (hi : i < R) => row_any R C i A n k W hR hC hi hn hnk)
  have RR := Lib.hid (fun (i : Nat) (W : World) (hi : i < R) (hB : Below w.heap.size w W) => row_reads (i := i) (h.below hB) hn hi hnk)
  have RL := Lib.hid (fun (i : Nat) (hi : i < R) => rowC_len bs R C i hbl hi)
  have L := Lib.hid hl
  have H' := Lib.hid h'
  clear hm h h' hn hnk hl hbl
  go_enter Try.func25, Try.ntmps25
  go_wp2_with fail
  refine (M _).out.mono ?_; rintro e w1 ⟨rfl, hB1⟩
  have hb2 : Blk w1 w.heap.size 24 (mC R C (.slice A n k)) := Blk.below ((Blk.new w _ _).alloc _) hB1 (by simp; omega)
  have hb4 : Blk w1 (w.heap.size + 1) 24 (mC 0 0 (.slice none 0 0)) := by
    refine Blk.below ?_ hB1 (by simp)
    have h := Blk.new (w.alloc (.cells #[.int .i64 R, .int .i64 C, .slice A n k] 24)) 24 (mC 0 0 (.slice none 0 0))
    simpa [mC] using h
  have HB1 := ((Below.refl w.heap.size w).alloc (Nat.le_refl _) (.cells #[.int .i64 R, .int .i64 C, .slice A n k] 24)).alloc (by simp) (.cells #[.int .i64 0, .int .i64 0, .slice none 0 0] 24) |>.trans (hB1.mono (by simp; omega))
  have y1 : w1.cell? ⟨w.heap.size, 1, none⟩ = some (.int .i64 C) := hb2.cell 1
  have hgw1 : w.heap.size + 1 < w1.heap.size := hb4.lt
  replace HB1 := Lib.hid HB1; replace hb2 := Lib.hid hb2; replace hb4 := Lib.hid hb4
  clear hB1
  go_wp2_with fail
  have hB3 := below_alloc HB1.out (.cells #[.int .i64 n', .int .i64 C, .slice none 0 0] 24)
  have hb23 := hb2.out.alloc (.cells #[.int .i64 n', .int .i64 C, .slice none 0 0] 24)
  have hb43 := hb4.out.alloc (.cells #[.int .i64 n', .int .i64 C, .slice none 0 0] 24)
  have hb63 : Blk (w1.alloc (.cells #[.int .i64 n', .int .i64 C, .slice none 0 0] 24)) w1.heap.size 24 (mC n' C (.slice none 0 0)) := Blk.new _ _ _
  generalize w1.alloc (.cells #[.int .i64 n', .int .i64 C, .slice none 0 0] 24) = w3 at *
  generalize w1.heap.size = g6 at *
  replace hB3 := Lib.hid hB3; replace hb23 := Lib.hid hb23; replace hb43 := Lib.hid hb43; replace hb63 := Lib.hid hb63
  clear HB1 hb2 hb4 y1 hz M
  go_loopw [25] (fun v25 wr => ∃ (j c' : Nat) (A1 : Option Addr) (out : List UInt8), v25 = .int .i64 j ∧ j ≤ n' ∧ Hid (Below w.heap.size w wr) ∧ Hid (Blk wr w.heap.size 24 (mC R C (.slice A n k))) ∧ Hid (Blk wr (w.heap.size + 1) 24 (mC 0 0 (.slice none 0 0))) ∧ Hid (Blk wr g6 24 (mC n' C (.slice A1 (j * C) c'))) ∧ Hid (wr.ownsRow w.heap.size 5 1 (.slice A1 (j * C) c') (j * C) (out.map B8)) ∧ Hid (pickGo bs R C (xs.drop j) out = pickGo bs R C xs [])) (fun v25 _ => n' - (intOf v25).toNat)
  case atStart => exact ⟨0, 0, none, [], rfl, by omega, hB3, hb23, hb43, by rw [Nat.zero_mul]; exact hb63, by rw [Nat.zero_mul]; exact World.ownsRow_nil _ _ _ 1, rfl⟩
  case round =>
    obtain ⟨j, c', A1, out, rfl, hjn, HB, Hb2, Hb4, Hb6, HO, HP⟩ := hrel
    by_cases hlt : j < n'
    · have hlt' : (j : Int) < n' := by omega
      have hgw : w.heap.size + 1 < wr.heap.size := Hb4.out.lt
      obtain ⟨ad, rfl, hcell⟩ := ints_cells (H'.out.below HB.out) (by omega)
      have hjx : j < xs.length := by rw [L.out]; exact hlt
      have e1 := hcell j hjx
      have HP2 := Lib.hid (pickGo_step bs R C xs j hjx out)
      have y0 : wr.cell? ⟨w.heap.size, 0, none⟩ = some (.int .i64 R) := Hb2.out.cell 0
      have y1 : wr.cell? ⟨w.heap.size, 1, none⟩ = some (.int .i64 C) := Hb2.out.cell 1
      have y2 : wr.cell? ⟨w.heap.size, 2, none⟩ = some (.slice A n k) := Hb2.out.cell 2
      clear hcell
      generalize xs[j] = x at *
      by_cases hx : 0 ≤ x ∧ x < (R : Int)
      · skip
        rw [if_pos hx] at HP2
        obtain ⟨i, rfl⟩ : ∃ i : Nat, x = (i : Int) := ⟨x.toNat, by omega⟩
        obtain ⟨hx0, hxR⟩ := hx
        have hiR : i < R := by omega
        rw [Int.toNat_natCast] at HP2
        have hm : (j + 1) * C ≤ 65025 := rc_le (by omega) hC
        rw [Nat.succ_mul] at hm
        have Hm1 : Hid ((j + 1) * C = j * C + C) := Nat.succ_mul _ _
        generalize j * C = m at *
        have z2 : wr.cell? ⟨g6, 2, none⟩ = some (.slice A1 m c') := Hb6.out.cell 2
        have hb1 : m + C ≤ maxLen := by unfold maxLen; omega
        have hb2 : (m + C) * 1 ≤ 140737488355328 := by omega
        have Rc := Lib.hid (fun W => RA.out i W hiR)
        have RrI := Lib.hid (fun W hB => RR.out i W hiR hB)
        have RlI := Lib.hid (RL.out i hiR)
        go_wp2_with fail
        have KEEP : Hid (∀ W, Below wr.heap.size wr W → W.cell? ⟨g6, 2, none⟩ = some (.slice A1 m c') ∧ W.cell? ⟨w.heap.size, 0, none⟩ = some (.int .i64 R) ∧ W.cell? ⟨w.heap.size, 1, none⟩ = some (.int .i64 C) ∧ W.cell? ⟨w.heap.size, 2, none⟩ = some (.slice A n k)) := fun W hW => ⟨(Hb6.out.below hW Hb6.out.lt).cell 2, (Hb2.out.below hW Hb2.out.lt).cell 0, (Hb2.out.below hW Hb2.out.lt).cell 1, (Hb2.out.below hW Hb2.out.lt).cell 2⟩
        obtain ⟨z2d, y0d, y1d, y2d⟩ := KEEP.out wr.drew (Below.refl _ _).drew
        have hg6 : w.heap.size + 1 < g6 := hgw1
        go_region_law
          (first
            | (go_simp; go_at_call 39; ((with_reducible refine (Rc.out _).mono ?_); rintro e w5 ⟨rfl, hB5⟩; obtain ⟨z25, y05, y15, y25⟩ := KEEP.out w5 (by first | exact hB5 | exact ((Below.refl _ _).drew).trans hB5); have HB5 : Hid (Below wr.heap.size wr w5) := (by first | exact hB5 | exact ((Below.refl _ _).drew).trans hB5); clear hB5))
            | (refine step_append_any _ (by rfl) _ _ _ (by rfl) w.heap.size 5 i0 (.int .u8 0) 1 1 Try.underlying22 hi.out hz0.out hz1.out hz2.out rfl (by omega) A1 m c' _ (by rfl) (own_belowL HO.out HB5.out) w.heap.size _ C (k - i * C) _ (by rfl) (RrI.out _ (HB.out.trans (HB5.out.mono (by omega)))) (row_one (w := w5) (B := w.heap.size) (n := C) (RrI.out _ (HB.out.trans (HB5.out.mono (by omega))))) hb1 hb2 (show w.heap.size ≤ w5.heap.size from Nat.le_trans (by omega) HB5.out.size) ?_
               intro A3 c3 w4 ho4 hg4 _hs4
               have ho5 := own_belowL HO.out HB5.out
               have hb4 : Blk w4 g6 24 (mC n' C (.slice A1 m c')) := blk_grown (Hb6.out.below HB5.out Hb6.out.lt) ho5 hg4
               have hbr : Blk w4 (w.heap.size + 1) 24 (mC 0 0 (.slice none 0 0)) := blk_grown (Hb4.out.below HB5.out Hb4.out.lt) ho5 hg4
               have hbm : Blk w4 w.heap.size 24 (mC R C (.slice A n k)) := blk_grown (Hb2.out.below HB5.out Hb2.out.lt) ho5 hg4
               have hB4 : Below w.heap.size w w4 := below_app (HB.out.trans (HB5.out.mono (by omega))) hg4 ho5 (show w.heap.size ≤ w5.heap.size from Nat.le_trans (by omega) HB5.out.size)
               have z24 : w4.cell? ⟨g6, 2, none⟩ = some (.slice A1 m c') := hb4.cell 2
               have zf4 : w4.frozen? ⟨g6, 2, none⟩ = false := hb4.frozen 2
               replace ho4 := Lib.hid ho4; replace hb4 := Lib.hid hb4; replace hbr := Lib.hid hbr; replace hbm := Lib.hid hbm; replace hB4 := Lib.hid hB4; clear hg4 _hs4 ho5))
        all_goals
          go_wp2_with fail
          go_roundw
          case rel =>
            refine ⟨j + 1, c3, A3, out ++ rowC bs C i, by go_num, by omega, hB4.out.setCell (p := ⟨g6, 2, none⟩) (Nat.le_of_lt (Nat.lt_trans (Nat.lt_succ_self _) hg6)) _, hbm.out.far (p := ⟨g6, 2, none⟩) (Nat.ne_of_lt (Nat.lt_trans (Nat.lt_succ_self _) hg6)) _, hbr.out.far (p := ⟨g6, 2, none⟩) (Nat.ne_of_lt hg6) _, ?_, ?_, ?_⟩
            · rw [Hm1.out]
              exact hb4.out.set_ 2 (.slice A3 (m + C) c3)
            · rw [Hm1.out, List.map_append]
              exact own_setM (j := 2) ho4.out hb4.out (.slice A3 (m + C) c3)
            · exact HP2.out.symm.trans HP.out
          case measure => simp [intOf]; omega
      · rw [if_neg hx] at HP2
        have HN : Hid (pickGo bs R C xs [] = none) := HP.out.symm.trans HP2.out
        have hx' : x < 0 ∨ (0 ≤ x ∧ (R : Int) ≤ x) := by omega
        clear hx
        rcases hx' with hx | ⟨hx, hx2⟩
        all_goals
          go_wp2_with (refine wpList_store_row rfl 24 _ _ rfl (w.heap.size + 1) (mC 0 0 (.slice none 0 0)) rfl rfl 24 (mC 0 0 (.slice none 0 0)) Hb4.out info_ms rfl (mC_one _ _ _ _ _) ?_)
          exact bodyPost_ret (results_cell_int rfl _ _ (w.heap.size + 1) (mC 0 0 (.slice none 0 0)) (.int .i64 13) rfl rfl (run_loadVar_row _ (w.heap.size + 1) 24 _ (mC 0 0 (.slice none 0 0)) (0, 0) _ (Hb4.out.row _) Try.underlying24 rfl info_ms)) rfl (hN.out HN.out _ _ ⟨none, 0, rfl, World.ownsRow_nil _ _ _ 1, below_row HB.out (Nat.le_succ _) _⟩)
    · have hjn2 : j = n' := by omega
      have HS : Hid (pickGo bs R C xs [] = some out) := by
        rw [← HP.out, List.drop_of_length_le (by rw [L.out]; omega)]; rfl
      have hge : (n' : Int) ≤ j := by omega
      have hol : Hid (out.length = j * C) := by have h := HO.out.1; unfold Hid; simpa using h
      rw [← hol.out] at HO Hb6
      go_wp2_with (first
        | (refine wpList_load_row rfl 24 _ rfl g6 rfl 24 (mC n' C (.slice A1 out.length c')) (0, 0) _ Hb6.out Try.underlying24 rfl info_ms ?_)
        | (refine wpList_store_row rfl 24 _ _ rfl (w.heap.size + 1) (mC n' C (.slice A1 out.length c')) rfl rfl 24 (mC 0 0 (.slice none 0 0)) Hb4.out info_ms rfl (mC_one _ _ _ _ _) ?_))
      exact bodyPost_ret (results_cell_int rfl _ _ (w.heap.size + 1) (mC n' C (.slice A1 out.length c')) (.int .i64 0) rfl rfl (run_loadVar_row _ (w.heap.size + 1) 24 _ (mC n' C (.slice A1 out.length c')) (0, 0) _ (Hb4.out.row _) Try.underlying24 rfl info_ms)) rfl (hS.out out HS.out _ _ ⟨A1, c', rfl, own_setRowM HO.out Hb4.out _, below_row HB.out (Nat.le_succ _) _⟩)
end Go.Proofs.Ytbokbndphpdgoaa

