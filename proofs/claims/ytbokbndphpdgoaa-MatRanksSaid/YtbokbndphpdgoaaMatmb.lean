/-
  The product of matrices of bad sizes; the law MatMuls.
-/
import Derived.Test.YtbokbndphpdgoaaMatmr
import Derived.Test.YtbokbndphpdgoaaMatpk
namespace Go.Proofs.Ytbokbndphpdgoaa
set_option linter.unusedSimpArgs false
set_option linter.unusedVariables false
open Go.RowKit

set_option maxRecDepth 100000 in
theorem mul_bad (r c r' c' : Int) (A A' : Option Addr) (n k n' k' : Nat) (w : World) (h : ¬ (Matp.may r c n = true ∧ Matp.may r' c' n' = true ∧ c = r')) :
    Calls Try.prog 27 #[.agg #[.int .i64 r, .int .i64 c, .slice A n k], .agg #[.int .i64 r', .int .i64 c', .slice A' n' k']] w (MRet w 0 0 [] 13) := by
  have M1 := fun W => Lib.hid (may_any r c A n k W)
  have M2 := fun W => Lib.hid (may_any r' c' A' n' k' W)
  unfold mC at M1 M2
  have hz := (zero_of_info info_m).1
  have hcases : Matp.may r c n = false ∨ (Matp.may r c n = true ∧ Matp.may r' c' n' = false) ∨ (Matp.may r c n = true ∧ Matp.may r' c' n' = true ∧ (c == r') = false) := by
    cases h1 : Matp.may r c n
    · exact .inl rfl
    · cases h2 : Matp.may r' c' n'
      · exact .inr (.inl ⟨rfl, rfl⟩)
      · refine .inr (.inr ⟨rfl, rfl, ?_⟩)
        rw [beq_eq_false_iff_ne]
        exact fun h3 => h ⟨h1, h2, h3⟩
  clear h
  rcases hcases with h1 | ⟨h1, h2⟩ | ⟨h1, h2, h3⟩
  · rw [h1] at M1
    clear h1
    go_enter Try.func27, Try.ntmps27
    go_wp2_with fail
    obtain ⟨hb2, hb3, hb4, hB0⟩ := blk3 w 24 24 24 #[.int .i64 r, .int .i64 c, .slice A n k] #[.int .i64 r', .int .i64 c', .slice A' n' k'] #[.int .i64 0, .int .i64 0, .slice none 0 0]
    generalize ((w.alloc (.cells #[.int .i64 r, .int .i64 c, .slice A n k] 24)).alloc (.cells #[.int .i64 r', .int .i64 c', .slice A' n' k'] 24)).alloc (.cells #[.int .i64 0, .int .i64 0, .slice none 0 0] 24) = W0 at *
    have hg4 : w.heap.size < w.heap.size + 1 + 1 := by omega
    have KB : Hid (∀ W, Below W0.heap.size W0 W → Below w.heap.size w W ∧ Blk W (w.heap.size + 1 + 1) 24 (mC 0 0 (.slice none 0 0))) := fun W hW => ⟨hB0.trans (hW.mono hB0.size), hb4.below hW hb4.lt⟩
    have C2 : Hid (∀ W, Below W0.heap.size W0 W → W.cell? ⟨w.heap.size, 0, none⟩ = some (.int .i64 r) ∧ W.cell? ⟨w.heap.size, 1, none⟩ = some (.int .i64 c) ∧ W.cell? ⟨w.heap.size, 2, none⟩ = some (.slice A n k)) := fun W hW => ⟨(hb2.below hW hb2.lt).cell 0, (hb2.below hW hb2.lt).cell 1, (hb2.below hW hb2.lt).cell 2⟩
    have C3 : Hid (∀ W, Below W0.heap.size W0 W → W.cell? ⟨w.heap.size + 1, 0, none⟩ = some (.int .i64 r') ∧ W.cell? ⟨w.heap.size + 1, 1, none⟩ = some (.int .i64 c') ∧ W.cell? ⟨w.heap.size + 1, 2, none⟩ = some (.slice A' n' k')) := fun W hW => ⟨(hb3.below hW hb3.lt).cell 0, (hb3.below hW hb3.lt).cell 1, (hb3.below hW hb3.lt).cell 2⟩
    clear hb2 hb3 hb4 hB0
    generalize w.heap.size + 1 + 1 = g4 at *
    generalize w.heap.size + 1 = g3 at *
    refine (M1 _).out.mono ?_; rintro e w1 ⟨rfl, hB1⟩
    obtain ⟨y0, y1, y2⟩ := C3.out w1 hB1
    replace hB1 := Lib.hid hB1
    have Hb4 := Lib.hid (KB.out _ hB1.out).2
    have HBw := Lib.hid (KB.out _ hB1.out).1
    go_wp2_with (refine wpList_store_row rfl 24 _ _ rfl g4 (mC 0 0 (.slice none 0 0)) rfl rfl 24 (mC 0 0 (.slice none 0 0)) Hb4.out info_ms rfl (mC_one _ _ _ _ _) ?_)
    exact bodyPost_ret (results_cell_int rfl _ _ g4 (mC 0 0 (.slice none 0 0)) (.int .i64 13) rfl rfl (run_loadVar_row _ g4 24 _ (mC 0 0 (.slice none 0 0)) (0, 0) _ (Hb4.out.row _) Try.underlying24 rfl info_ms)) rfl ⟨none, 0, rfl, World.ownsRow_nil _ _ _ 1, below_row HBw.out (Nat.le_of_lt hg4) _⟩
  · rw [h1] at M1
    rw [h2] at M2
    clear h1 h2
    go_enter Try.func27, Try.ntmps27
    go_wp2_with fail
    obtain ⟨hb2, hb3, hb4, hB0⟩ := blk3 w 24 24 24 #[.int .i64 r, .int .i64 c, .slice A n k] #[.int .i64 r', .int .i64 c', .slice A' n' k'] #[.int .i64 0, .int .i64 0, .slice none 0 0]
    generalize ((w.alloc (.cells #[.int .i64 r, .int .i64 c, .slice A n k] 24)).alloc (.cells #[.int .i64 r', .int .i64 c', .slice A' n' k'] 24)).alloc (.cells #[.int .i64 0, .int .i64 0, .slice none 0 0] 24) = W0 at *
    have hg4 : w.heap.size < w.heap.size + 1 + 1 := by omega
    have KB : Hid (∀ W, Below W0.heap.size W0 W → Below w.heap.size w W ∧ Blk W (w.heap.size + 1 + 1) 24 (mC 0 0 (.slice none 0 0))) := fun W hW => ⟨hB0.trans (hW.mono hB0.size), hb4.below hW hb4.lt⟩
    have C2 : Hid (∀ W, Below W0.heap.size W0 W → W.cell? ⟨w.heap.size, 0, none⟩ = some (.int .i64 r) ∧ W.cell? ⟨w.heap.size, 1, none⟩ = some (.int .i64 c) ∧ W.cell? ⟨w.heap.size, 2, none⟩ = some (.slice A n k)) := fun W hW => ⟨(hb2.below hW hb2.lt).cell 0, (hb2.below hW hb2.lt).cell 1, (hb2.below hW hb2.lt).cell 2⟩
    have C3 : Hid (∀ W, Below W0.heap.size W0 W → W.cell? ⟨w.heap.size + 1, 0, none⟩ = some (.int .i64 r') ∧ W.cell? ⟨w.heap.size + 1, 1, none⟩ = some (.int .i64 c') ∧ W.cell? ⟨w.heap.size + 1, 2, none⟩ = some (.slice A' n' k')) := fun W hW => ⟨(hb3.below hW hb3.lt).cell 0, (hb3.below hW hb3.lt).cell 1, (hb3.below hW hb3.lt).cell 2⟩
    clear hb2 hb3 hb4 hB0
    generalize w.heap.size + 1 + 1 = g4 at *
    generalize w.heap.size + 1 = g3 at *
    refine (M1 _).out.mono ?_; rintro e w1 ⟨rfl, hB1⟩
    obtain ⟨y0, y1, y2⟩ := C3.out w1 hB1
    replace hB1 := Lib.hid hB1
    go_wp2_with fail
    refine (M2 _).out.mono ?_; rintro e w2 ⟨rfl, hB2⟩
    have HB2 := Lib.hid (below_then hB1.out hB2)
    clear hB2 y0 y1 y2
    obtain ⟨x0, x1, x2⟩ := C2.out w2 HB2.out
    obtain ⟨y0, y1, y2⟩ := C3.out w2 HB2.out
    have Hb4 := Lib.hid (KB.out _ HB2.out).2
    have HBw := Lib.hid (KB.out _ HB2.out).1
    go_wp2_with (refine wpList_store_row rfl 24 _ _ rfl g4 (mC 0 0 (.slice none 0 0)) rfl rfl 24 (mC 0 0 (.slice none 0 0)) Hb4.out info_ms rfl (mC_one _ _ _ _ _) ?_)
    exact bodyPost_ret (results_cell_int rfl _ _ g4 (mC 0 0 (.slice none 0 0)) (.int .i64 13) rfl rfl (run_loadVar_row _ g4 24 _ (mC 0 0 (.slice none 0 0)) (0, 0) _ (Hb4.out.row _) Try.underlying24 rfl info_ms)) rfl ⟨none, 0, rfl, World.ownsRow_nil _ _ _ 1, below_row HBw.out (Nat.le_of_lt hg4) _⟩
  · rw [h1] at M1
    rw [h2] at M2
    clear h1 h2
    go_enter Try.func27, Try.ntmps27
    go_wp2_with fail
    obtain ⟨hb2, hb3, hb4, hB0⟩ := blk3 w 24 24 24 #[.int .i64 r, .int .i64 c, .slice A n k] #[.int .i64 r', .int .i64 c', .slice A' n' k'] #[.int .i64 0, .int .i64 0, .slice none 0 0]
    generalize ((w.alloc (.cells #[.int .i64 r, .int .i64 c, .slice A n k] 24)).alloc (.cells #[.int .i64 r', .int .i64 c', .slice A' n' k'] 24)).alloc (.cells #[.int .i64 0, .int .i64 0, .slice none 0 0] 24) = W0 at *
    have hg4 : w.heap.size < w.heap.size + 1 + 1 := by omega
    have KB : Hid (∀ W, Below W0.heap.size W0 W → Below w.heap.size w W ∧ Blk W (w.heap.size + 1 + 1) 24 (mC 0 0 (.slice none 0 0))) := fun W hW => ⟨hB0.trans (hW.mono hB0.size), hb4.below hW hb4.lt⟩
    have C2 : Hid (∀ W, Below W0.heap.size W0 W → W.cell? ⟨w.heap.size, 0, none⟩ = some (.int .i64 r) ∧ W.cell? ⟨w.heap.size, 1, none⟩ = some (.int .i64 c) ∧ W.cell? ⟨w.heap.size, 2, none⟩ = some (.slice A n k)) := fun W hW => ⟨(hb2.below hW hb2.lt).cell 0, (hb2.below hW hb2.lt).cell 1, (hb2.below hW hb2.lt).cell 2⟩
    have C3 : Hid (∀ W, Below W0.heap.size W0 W → W.cell? ⟨w.heap.size + 1, 0, none⟩ = some (.int .i64 r') ∧ W.cell? ⟨w.heap.size + 1, 1, none⟩ = some (.int .i64 c') ∧ W.cell? ⟨w.heap.size + 1, 2, none⟩ = some (.slice A' n' k')) := fun W hW => ⟨(hb3.below hW hb3.lt).cell 0, (hb3.below hW hb3.lt).cell 1, (hb3.below hW hb3.lt).cell 2⟩
    clear hb2 hb3 hb4 hB0
    generalize w.heap.size + 1 + 1 = g4 at *
    generalize w.heap.size + 1 = g3 at *
    refine (M1 _).out.mono ?_; rintro e w1 ⟨rfl, hB1⟩
    obtain ⟨y0, y1, y2⟩ := C3.out w1 hB1
    replace hB1 := Lib.hid hB1
    go_wp2_with fail
    refine (M2 _).out.mono ?_; rintro e w2 ⟨rfl, hB2⟩
    have HB2 := Lib.hid (below_then hB1.out hB2)
    clear hB2 y0 y1 y2
    obtain ⟨x0, x1, x2⟩ := C2.out w2 HB2.out
    obtain ⟨y0, y1, y2⟩ := C3.out w2 HB2.out
    have Hb4 := Lib.hid (KB.out _ HB2.out).2
    have HBw := Lib.hid (KB.out _ HB2.out).1
    go_wp2_with (refine wpList_store_row rfl 24 _ _ rfl g4 (mC 0 0 (.slice none 0 0)) rfl rfl 24 (mC 0 0 (.slice none 0 0)) Hb4.out info_ms rfl (mC_one _ _ _ _ _) ?_)
    exact bodyPost_ret (results_cell_int rfl _ _ g4 (mC 0 0 (.slice none 0 0)) (.int .i64 13) rfl rfl (run_loadVar_row _ g4 24 _ (mC 0 0 (.slice none 0 0)) (0, 0) _ (Hb4.out.row _) Try.underlying24 rfl info_ms)) rfl ⟨none, 0, rfl, World.ownsRow_nil _ _ _ 1, below_row HBw.out (Nat.le_of_lt hg4) _⟩

set_option maxRecDepth 100000 in
theorem refMul_bad (r c r' c' : Int) (A A' : Option Addr) (n k n' k' : Nat) (w : World) (h : ¬ (Matp.may r c n = true ∧ Matp.may r' c' n' = true ∧ c = r')) :
    Calls Try.prog 28 #[.agg #[.int .i64 r, .int .i64 c, .slice A n k], .agg #[.int .i64 r', .int .i64 c', .slice A' n' k']] w (MRet w 0 0 [] 13) := by
  have M1 := fun W => Lib.hid (refMay_any r c A n k W)
  have M2 := fun W => Lib.hid (refMay_any r' c' A' n' k' W)
  unfold mC at M1 M2
  have hz := (zero_of_info info_m).1
  have hcases : Matp.may r c n = false ∨ (Matp.may r c n = true ∧ Matp.may r' c' n' = false) ∨ (Matp.may r c n = true ∧ Matp.may r' c' n' = true ∧ (c == r') = false) := by
    cases h1 : Matp.may r c n
    · exact .inl rfl
    · cases h2 : Matp.may r' c' n'
      · exact .inr (.inl ⟨rfl, rfl⟩)
      · refine .inr (.inr ⟨rfl, rfl, ?_⟩)
        rw [beq_eq_false_iff_ne]
        exact fun h3 => h ⟨h1, h2, h3⟩
  clear h
  rcases hcases with h1 | ⟨h1, h2⟩ | ⟨h1, h2, h3⟩
  · rw [h1] at M1
    clear h1
    go_enter Try.func28, Try.ntmps28
    go_wp2_with fail
    obtain ⟨hb2, hb3, hb4, hB0⟩ := blk3 w 24 24 24 #[.int .i64 r, .int .i64 c, .slice A n k] #[.int .i64 r', .int .i64 c', .slice A' n' k'] #[.int .i64 0, .int .i64 0, .slice none 0 0]
    generalize ((w.alloc (.cells #[.int .i64 r, .int .i64 c, .slice A n k] 24)).alloc (.cells #[.int .i64 r', .int .i64 c', .slice A' n' k'] 24)).alloc (.cells #[.int .i64 0, .int .i64 0, .slice none 0 0] 24) = W0 at *
    have hg4 : w.heap.size < w.heap.size + 1 + 1 := by omega
    have KB : Hid (∀ W, Below W0.heap.size W0 W → Below w.heap.size w W ∧ Blk W (w.heap.size + 1 + 1) 24 (mC 0 0 (.slice none 0 0))) := fun W hW => ⟨hB0.trans (hW.mono hB0.size), hb4.below hW hb4.lt⟩
    have C2 : Hid (∀ W, Below W0.heap.size W0 W → W.cell? ⟨w.heap.size, 0, none⟩ = some (.int .i64 r) ∧ W.cell? ⟨w.heap.size, 1, none⟩ = some (.int .i64 c) ∧ W.cell? ⟨w.heap.size, 2, none⟩ = some (.slice A n k)) := fun W hW => ⟨(hb2.below hW hb2.lt).cell 0, (hb2.below hW hb2.lt).cell 1, (hb2.below hW hb2.lt).cell 2⟩
    have C3 : Hid (∀ W, Below W0.heap.size W0 W → W.cell? ⟨w.heap.size + 1, 0, none⟩ = some (.int .i64 r') ∧ W.cell? ⟨w.heap.size + 1, 1, none⟩ = some (.int .i64 c') ∧ W.cell? ⟨w.heap.size + 1, 2, none⟩ = some (.slice A' n' k')) := fun W hW => ⟨(hb3.below hW hb3.lt).cell 0, (hb3.below hW hb3.lt).cell 1, (hb3.below hW hb3.lt).cell 2⟩
    clear hb2 hb3 hb4 hB0
    generalize w.heap.size + 1 + 1 = g4 at *
    generalize w.heap.size + 1 = g3 at *
    refine (M1 _).out.mono ?_; rintro e w1 ⟨rfl, hB1⟩
    obtain ⟨y0, y1, y2⟩ := C3.out w1 hB1
    replace hB1 := Lib.hid hB1
    have Hb4 := Lib.hid (KB.out _ hB1.out).2
    have HBw := Lib.hid (KB.out _ hB1.out).1
    go_wp2_with (refine wpList_store_row rfl 24 _ _ rfl g4 (mC 0 0 (.slice none 0 0)) rfl rfl 24 (mC 0 0 (.slice none 0 0)) Hb4.out info_ms rfl (mC_one _ _ _ _ _) ?_)
    exact bodyPost_ret (results_cell_int rfl _ _ g4 (mC 0 0 (.slice none 0 0)) (.int .i64 13) rfl rfl (run_loadVar_row _ g4 24 _ (mC 0 0 (.slice none 0 0)) (0, 0) _ (Hb4.out.row _) Try.underlying24 rfl info_ms)) rfl ⟨none, 0, rfl, World.ownsRow_nil _ _ _ 1, below_row HBw.out (Nat.le_of_lt hg4) _⟩
  · rw [h1] at M1
    rw [h2] at M2
    clear h1 h2
    go_enter Try.func28, Try.ntmps28
    go_wp2_with fail
    obtain ⟨hb2, hb3, hb4, hB0⟩ := blk3 w 24 24 24 #[.int .i64 r, .int .i64 c, .slice A n k] #[.int .i64 r', .int .i64 c', .slice A' n' k'] #[.int .i64 0, .int .i64 0, .slice none 0 0]
    generalize ((w.alloc (.cells #[.int .i64 r, .int .i64 c, .slice A n k] 24)).alloc (.cells #[.int .i64 r', .int .i64 c', .slice A' n' k'] 24)).alloc (.cells #[.int .i64 0, .int .i64 0, .slice none 0 0] 24) = W0 at *
    have hg4 : w.heap.size < w.heap.size + 1 + 1 := by omega
    have KB : Hid (∀ W, Below W0.heap.size W0 W → Below w.heap.size w W ∧ Blk W (w.heap.size + 1 + 1) 24 (mC 0 0 (.slice none 0 0))) := fun W hW => ⟨hB0.trans (hW.mono hB0.size), hb4.below hW hb4.lt⟩
    have C2 : Hid (∀ W, Below W0.heap.size W0 W → W.cell? ⟨w.heap.size, 0, none⟩ = some (.int .i64 r) ∧ W.cell? ⟨w.heap.size, 1, none⟩ = some (.int .i64 c) ∧ W.cell? ⟨w.heap.size, 2, none⟩ = some (.slice A n k)) := fun W hW => ⟨(hb2.below hW hb2.lt).cell 0, (hb2.below hW hb2.lt).cell 1, (hb2.below hW hb2.lt).cell 2⟩
    have C3 : Hid (∀ W, Below W0.heap.size W0 W → W.cell? ⟨w.heap.size + 1, 0, none⟩ = some (.int .i64 r') ∧ W.cell? ⟨w.heap.size + 1, 1, none⟩ = some (.int .i64 c') ∧ W.cell? ⟨w.heap.size + 1, 2, none⟩ = some (.slice A' n' k')) := fun W hW => ⟨(hb3.below hW hb3.lt).cell 0, (hb3.below hW hb3.lt).cell 1, (hb3.below hW hb3.lt).cell 2⟩
    clear hb2 hb3 hb4 hB0
    generalize w.heap.size + 1 + 1 = g4 at *
    generalize w.heap.size + 1 = g3 at *
    refine (M1 _).out.mono ?_; rintro e w1 ⟨rfl, hB1⟩
    obtain ⟨y0, y1, y2⟩ := C3.out w1 hB1
    replace hB1 := Lib.hid hB1
    go_wp2_with fail
    refine (M2 _).out.mono ?_; rintro e w2 ⟨rfl, hB2⟩
    have HB2 := Lib.hid (below_then hB1.out hB2)
    clear hB2 y0 y1 y2
    obtain ⟨x0, x1, x2⟩ := C2.out w2 HB2.out
    obtain ⟨y0, y1, y2⟩ := C3.out w2 HB2.out
    have Hb4 := Lib.hid (KB.out _ HB2.out).2
    have HBw := Lib.hid (KB.out _ HB2.out).1
    go_wp2_with (refine wpList_store_row rfl 24 _ _ rfl g4 (mC 0 0 (.slice none 0 0)) rfl rfl 24 (mC 0 0 (.slice none 0 0)) Hb4.out info_ms rfl (mC_one _ _ _ _ _) ?_)
    exact bodyPost_ret (results_cell_int rfl _ _ g4 (mC 0 0 (.slice none 0 0)) (.int .i64 13) rfl rfl (run_loadVar_row _ g4 24 _ (mC 0 0 (.slice none 0 0)) (0, 0) _ (Hb4.out.row _) Try.underlying24 rfl info_ms)) rfl ⟨none, 0, rfl, World.ownsRow_nil _ _ _ 1, below_row HBw.out (Nat.le_of_lt hg4) _⟩
  · rw [h1] at M1
    rw [h2] at M2
    clear h1 h2
    go_enter Try.func28, Try.ntmps28
    go_wp2_with fail
    obtain ⟨hb2, hb3, hb4, hB0⟩ := blk3 w 24 24 24 #[.int .i64 r, .int .i64 c, .slice A n k] #[.int .i64 r', .int .i64 c', .slice A' n' k'] #[.int .i64 0, .int .i64 0, .slice none 0 0]
    generalize ((w.alloc (.cells #[.int .i64 r, .int .i64 c, .slice A n k] 24)).alloc (.cells #[.int .i64 r', .int .i64 c', .slice A' n' k'] 24)).alloc (.cells #[.int .i64 0, .int .i64 0, .slice none 0 0] 24) = W0 at *
    have hg4 : w.heap.size < w.heap.size + 1 + 1 := by omega
    have KB : Hid (∀ W, Below W0.heap.size W0 W → Below w.heap.size w W ∧ Blk W (w.heap.size + 1 + 1) 24 (mC 0 0 (.slice none 0 0))) := fun W hW => ⟨hB0.trans (hW.mono hB0.size), hb4.below hW hb4.lt⟩
    have C2 : Hid (∀ W, Below W0.heap.size W0 W → W.cell? ⟨w.heap.size, 0, none⟩ = some (.int .i64 r) ∧ W.cell? ⟨w.heap.size, 1, none⟩ = some (.int .i64 c) ∧ W.cell? ⟨w.heap.size, 2, none⟩ = some (.slice A n k)) := fun W hW => ⟨(hb2.below hW hb2.lt).cell 0, (hb2.below hW hb2.lt).cell 1, (hb2.below hW hb2.lt).cell 2⟩
    have C3 : Hid (∀ W, Below W0.heap.size W0 W → W.cell? ⟨w.heap.size + 1, 0, none⟩ = some (.int .i64 r') ∧ W.cell? ⟨w.heap.size + 1, 1, none⟩ = some (.int .i64 c') ∧ W.cell? ⟨w.heap.size + 1, 2, none⟩ = some (.slice A' n' k')) := fun W hW => ⟨(hb3.below hW hb3.lt).cell 0, (hb3.below hW hb3.lt).cell 1, (hb3.below hW hb3.lt).cell 2⟩
    clear hb2 hb3 hb4 hB0
    generalize w.heap.size + 1 + 1 = g4 at *
    generalize w.heap.size + 1 = g3 at *
    refine (M1 _).out.mono ?_; rintro e w1 ⟨rfl, hB1⟩
    obtain ⟨y0, y1, y2⟩ := C3.out w1 hB1
    replace hB1 := Lib.hid hB1
    go_wp2_with fail
    refine (M2 _).out.mono ?_; rintro e w2 ⟨rfl, hB2⟩
    have HB2 := Lib.hid (below_then hB1.out hB2)
    clear hB2 y0 y1 y2
    obtain ⟨x0, x1, x2⟩ := C2.out w2 HB2.out
    obtain ⟨y0, y1, y2⟩ := C3.out w2 HB2.out
    have Hb4 := Lib.hid (KB.out _ HB2.out).2
    have HBw := Lib.hid (KB.out _ HB2.out).1
    go_wp2_with (refine wpList_store_row rfl 24 _ _ rfl g4 (mC 0 0 (.slice none 0 0)) rfl rfl 24 (mC 0 0 (.slice none 0 0)) Hb4.out info_ms rfl (mC_one _ _ _ _ _) ?_)
    exact bodyPost_ret (results_cell_int rfl _ _ g4 (mC 0 0 (.slice none 0 0)) (.int .i64 13) rfl rfl (run_loadVar_row _ g4 24 _ (mC 0 0 (.slice none 0 0)) (0, 0) _ (Hb4.out.row _) Try.underlying24 rfl info_ms)) rfl ⟨none, 0, rfl, World.ownsRow_nil _ _ _ 1, below_row HBw.out (Nat.le_of_lt hg4) _⟩

/-- what a product gives -/
def mulV (r c : Int) (xa : List UInt8) (r' c' : Int) (xb : List UInt8) : Nat × Nat × List UInt8 × Int :=
  if Matp.may r c xa.length = true ∧ Matp.may r' c' xb.length = true ∧ c = r' then (r.toNat, c'.toNat, mulC xa xb r.toNat c.toNat c'.toNat, 0) else (0, 0, [], 13)
/-- what both of Mul say -/
theorem muls_both (r c r' c' : Int) (A A' : Option Addr) (n k n' k' : Nat) (xa xb : List UInt8) (w : World) (hnk : n ≤ k) (hnk' : n' ≤ k') (h : Reads w w.heap.size 1 A n (xa.map B8)) (h' : Reads w w.heap.size 1 A' n' (xb.map B8)) :
    (Calls Try.prog 27 #[.agg #[.int .i64 r, .int .i64 c, .slice A n k], .agg #[.int .i64 r', .int .i64 c', .slice A' n' k']] w (MRet w (mulV r c xa r' c' xb).1 (mulV r c xa r' c' xb).2.1 (mulV r c xa r' c' xb).2.2.1 (mulV r c xa r' c' xb).2.2.2)) ∧
    (Calls Try.prog 28 #[.agg #[.int .i64 r, .int .i64 c, .slice A n k], .agg #[.int .i64 r', .int .i64 c', .slice A' n' k']] w (MRet w (mulV r c xa r' c' xb).1 (mulV r c xa r' c' xb).2.1 (mulV r c xa r' c' xb).2.2.1 (mulV r c xa r' c' xb).2.2.2)) := by
  have hl := h.len
  have hl' := h'.len
  unfold mulV
  rw [hl, hl']
  by_cases hok : Matp.may r c n = true ∧ Matp.may r' c' n' = true ∧ c = r'
  · rw [if_pos hok]
    obtain ⟨R, K, rfl, rfl, hR, hK, hn⟩ := may_nat hok.1
    obtain ⟨K', C, hk', rfl, hK', hC, hn'⟩ := may_nat hok.2.1
    have e1 := hok.2.2
    subst hk'
    obtain rfl : K = K' := by omega
    simp only [Int.toNat_natCast]
    exact ⟨mul_in R K C A A' n k n' k' xa xb w hR hK hC hn hnk hn' hnk' h h', refMul_in R K C A A' n k n' k' xa xb w hR hK hC hn hnk hn' hnk' h h'⟩
  · rw [if_neg hok]
    exact ⟨mul_bad r c r' c' A A' n k n' k' w hok, refMul_bad r c r' c' A A' n k n' k' w hok⟩
end Go.Proofs.Ytbokbndphpdgoaa
