/-
  Inverse: walked.
-/
import Derived.Test.YtbokbndphpdgoaaMatwk5
namespace Go.Proofs.Ytbokbndphpdgoaa
set_option linter.unusedSimpArgs false
set_option linter.unusedVariables false
open Go.RowKit

theorem blk2m (w : World) (t1 t2 : TypeId) (c1 c2 : Array Value) :
    Blk ((w.alloc (.cells c1 t1)).alloc (.cells c2 t2)) w.heap.size t1 c1 ∧ Blk ((w.alloc (.cells c1 t1)).alloc (.cells c2 t2)) (w.heap.size + 1) t2 c2 ∧ Below w.heap.size w ((w.alloc (.cells c1 t1)).alloc (.cells c2 t2)) := by
  refine ⟨(Blk.new w t1 c1).alloc _, ?_, ((Below.refl _ _).alloc (Nat.le_refl _) _).alloc (by simp) _⟩
  have h := Blk.new (w.alloc (.cells c1 t1)) t2 c2
  simpa using h

/-- what Inverse hands back of a square matrix -/
def InvRet (w : World) (R : Nat) (X : Option (Nat → Nat → UInt8)) (e : Ending) (w' : World) : Prop :=
  match X with
  | some x => MRet w R R (cellsTo R x (R * R)) 0 e w'
  | none => MRet w 0 0 [] 14 e w'

theorem gauss_step {n i : Nat} {W B : Nat → Nat → UInt8} (hi : i < n) : Lin.gaussGo n (n - i) i W B = if Lin.pivot (fun t => W t i) n i < n then Lin.gaussGo n (n - (i + 1)) (i + 1) (Lin.stepW i i (Lin.pivot (fun t => W t i) n i) W W) (Lin.stepW i i (Lin.pivot (fun t => W t i) n i) W B) else none := by
  have e : n - i = (n - (i + 1)) + 1 := by omega
  rw [e]
  rfl
theorem gauss_end {n : Nat} {W B : Nat → Nat → UInt8} : Lin.gaussGo n (n - n) n W B = some B := by
  rw [Nat.sub_self]; rfl

set_option maxRecDepth 100000 in
set_option maxHeartbeats 4000000 in
theorem inverse_in (R : Nat) (A : Option Addr) (n k : Nat) (bs : List UInt8) (w : World) (hR : R ≤ 255) (hn : n = R * R) (h : Reads w w.heap.size 1 A n (bs.map B8)) :
    Calls Try.prog 31 #[.agg #[.int .i64 R, .int .i64 R, .slice A n k]] w (InvRet w R (Lin.inverse R (cellAt bs R))) := by
  have M1 := fun W => Lib.hid (may_any R R A n k W)
  unfold mC at M1
  have hm1 : Matp.may (R : Int) (R : Int) n = true := by
    unfold Matp.may; rw [hn, Int.natCast_mul]; simp; omega
  rw [hm1] at M1
  have hz := (zero_of_info info_m).1
  have WO := Lib.hid (fun (W : World) (hB : Below w.heap.size w W) => working_any (R := R) (C := R) (n := n) (k := k) (A := A) (bs := bs) (w := W) hR hR hn ((h.below hB).more hB.size))
  have CLR := Lib.hid (fun (W : World) base g A1 n1 k1 F1 A2 n2 k2 F2 (hP : Pw W base g R R A1 n1 k1 F1 A2 n2 k2 F2) (i : Nat) (hi : i < R) => clear_any hP i i hR hR hi hi)
  obtain ⟨G, hG⟩ : ∃ G, Hid (Lin.inverse R (cellAt bs R) = G) := ⟨_, rfl⟩
  rw [hG.out]
  have HG0 : Hid (Lin.gaussGo R (R - 0) 0 (cellAt bs R) Lin.one = G) := hG
  have hms := info_ms
  clear hm1 hn h
  go_enter Try.func31, Try.ntmps31
  go_wp2_with fail
  obtain ⟨hb2, hb3, hB0⟩ := blk2m w 24 24 #[.int .i64 R, .int .i64 R, .slice A n k] #[.int .i64 0, .int .i64 0, .slice none 0 0]
  generalize (w.alloc (.cells #[.int .i64 R, .int .i64 R, .slice A n k] 24)).alloc (.cells #[.int .i64 0, .int .i64 0, .slice none 0 0] 24) = W0 at *
  have hg3 : w.heap.size < w.heap.size + 1 := by omega
  have hg3b : w.heap.size + 1 < W0.heap.size := hb3.lt
  have KB : Hid (∀ W, Below W0.heap.size W0 W → Below w.heap.size w W ∧ Blk W (w.heap.size + 1) 24 (mC 0 0 (.slice none 0 0))) := fun W hW => ⟨hB0.trans (hW.mono hB0.size), hb3.below hW hb3.lt⟩
  have C2 : Hid (∀ W, Below W0.heap.size W0 W → W.cell? ⟨w.heap.size, 0, none⟩ = some (.int .i64 R) ∧ W.cell? ⟨w.heap.size, 1, none⟩ = some (.int .i64 R) ∧ W.cell? ⟨w.heap.size, 2, none⟩ = some (.slice A n k)) := fun W hW => ⟨(hb2.below hW hb2.lt).cell 0, (hb2.below hW hb2.lt).cell 1, (hb2.below hW hb2.lt).cell 2⟩
  clear hb2 hb3 hB0
  generalize w.heap.size + 1 = g3 at *
  refine (M1 _).out.mono ?_; rintro e w1 ⟨rfl, hB1⟩
  obtain ⟨x0, x1, x2⟩ := C2.out w1 hB1
  replace hB1 := Lib.hid hB1
  go_wp2_with fail
  refine (WO.out _ (KB.out _ hB1.out).1).mono ?_; rintro e w2 ⟨g, A1, k1, A2, n2, k2, rfl, hB2, hP2⟩
  have HB2 := Lib.hid (below_then hB1.out hB2)
  have hw1 : Hid (W0.heap.size ≤ w1.heap.size) := hB1.out.size
  replace hB2 := Lib.hid hB2; replace hP2 := Lib.hid hP2
  clear x0 x1 x2
  obtain ⟨x0, x1, x2⟩ := C2.out w2 HB2.out
  go_wp2_with fail
  clear x0 x1 x2
  go_loopw [21] (fun v21 wr => ∃ (i : Nat) (W B : Nat → Nat → UInt8), v21 = .int .i64 i ∧ i ≤ R ∧ Hid (Pw wr w1.heap.size g R R A1 n k1 W A2 n2 k2 B) ∧ Hid (Below w1.heap.size w1 wr) ∧ Hid (Lin.gaussGo R (R - i) i W B = G)) (fun v21 _ => R - (intOf v21).toNat)
  case atStart => exact ⟨0, cellAt bs R, Lin.one, rfl, by omega, hP2, hB2, HG0⟩
  case round =>
    clear hP2 hB2 HB2
    obtain ⟨i, W, B, rfl, hiR, HP, HB, HG⟩ := hrel
    have HBW := Lib.hid (below_then hB1.out (HB.out.mono (Nat.le_refl _)))
    by_cases hlt : i < R
    · have hlt' : (i : Int) < (R : Int) := by omega
      have CLi := CLR.out _ _ _ _ _ _ _ _ _ _ _ HP.out i hlt
      have HST := gauss_step (W := W) (B := B) hlt
      by_cases hp : Lin.pivot (fun t => W t i) R i < R
      · simp only [hp, if_true, decide_true] at CLi HST
        replace CLi := Lib.hid CLi
        have HG2 : Hid (Lin.gaussGo R (R - (i + 1)) (i + 1) (Lin.stepW i i (Lin.pivot (fun t => W t i) R i) W W) (Lin.stepW i i (Lin.pivot (fun t => W t i) R i) W B) = G) := by
          unfold Hid
          rw [← HST]; exact HG.out
        clear hp HST
        go_wp2_with fail
        refine CLi.out.mono ?_; rintro e w3 ⟨rfl, hB3, hP3⟩
        have HB3 := Lib.hid (HB.out.trans hB3)
        replace hP3 := Lib.hid hP3
        clear hB3 HB HP HBW CLi
        go_wp2_with fail
        go_roundw
        case rel => exact ⟨i + 1, _, _, by go_num, by omega, hP3, HB3, HG2⟩
        case measure => simp [intOf]; omega
      · simp only [hp, if_false, decide_false] at CLi HST
        replace CLi := Lib.hid CLi
        have hGn : G = none := by rw [← HG.out, HST]
        subst hGn
        clear hp HST
        go_wp2_with fail
        refine CLi.out.mono ?_; rintro e w3 ⟨rfl, hB3, hP3⟩
        have HB3 := Lib.hid (below_then hB1.out ((HB.out.trans hB3).mono (Nat.le_refl _)))
        have Hb4 := Lib.hid (KB.out _ HB3.out).2
        have HBw := Lib.hid (KB.out _ HB3.out).1
        clear hB3 hP3 HB HP HBW CLi
        go_wp2_with (refine wpList_store_row rfl 24 _ _ rfl g3 (mC 0 0 (.slice none 0 0)) rfl rfl 24 (mC 0 0 (.slice none 0 0)) Hb4.out info_ms rfl (mC_one _ _ _ _ _) ?_)
        exact bodyPost_ret (results_cell_int rfl _ _ g3 (mC 0 0 (.slice none 0 0)) (.int .i64 14) rfl rfl (run_loadVar_row _ g3 24 _ (mC 0 0 (.slice none 0 0)) (0, 0) _ (Hb4.out.row _) Try.underlying24 rfl info_ms)) rfl ⟨none, 0, rfl, World.ownsRow_nil _ _ _ 1, below_row HBw.out (Nat.le_of_lt hg3) _⟩
    · have hge : (R : Int) ≤ (i : Int) := by omega
      have hi2 : i = R := by omega
      have hGs : Hid (G = some B) := by
        unfold Hid
        rw [← HG.out, hi2]; exact gauss_end
      have hn2 : Hid (n2 = R * R) := HP.out.b.len.1
      have z0 := HP.out.b.c0
      have z1 := HP.out.b.c1
      have z2 := HP.out.b.c2
      have HO := Lib.hid HP.out.b.own
      have Hb4 := Lib.hid (KB.out _ HBW.out).2
      have HBw := Lib.hid (KB.out _ HBW.out).1
      simp only [Nat.reduceAdd] at z1 z2
      have hcl := cellsTo_len R B (R * R)
      replace hi2 := Lib.hid hi2
      go_wp2_with (refine wpList_store_row rfl 24 _ _ rfl g3 (mC R R (.slice A2 n2 k2)) rfl rfl 24 (mC 0 0 (.slice none 0 0)) Hb4.out info_ms rfl (mC_one _ _ _ _ _) ?_)
      refine bodyPost_ret (results_cell_int rfl _ _ g3 (mC R R (.slice A2 n2 k2)) (.int .i64 0) rfl rfl (run_loadVar_row _ g3 24 _ (mC R R (.slice A2 n2 k2)) (0, 0) _ (Hb4.out.row _) Try.underlying24 rfl info_ms)) rfl ?_
      rw [hGs.out]
      refine ⟨A2, k2, by rw [hcl, hn2.out], ?_, below_row HBw.out (Nat.le_of_lt hg3) _⟩
      rw [hcl, ← hn2.out]
      have := own_setRowM (own_base HO.out (Nat.le_trans (Nat.le_of_lt (Nat.lt_trans hg3 hg3b)) hw1.out)) Hb4.out (mC R R (.slice A2 n2 k2))
      rw [← hn2.out] at this
      exact this

set_option maxRecDepth 100000 in
set_option maxHeartbeats 1000000 in
theorem inverse_bad (r c : Int) (A : Option Addr) (n k : Nat) (w : World) (h : ¬ (Matp.may r c n = true ∧ r = c)) :
    Calls Try.prog 31 #[.agg #[.int .i64 r, .int .i64 c, .slice A n k]] w (MRet w 0 0 [] 13) := by
  have M1 := fun W => Lib.hid (may_any r c A n k W)
  unfold mC at M1
  have hz := (zero_of_info info_m).1
  have hcases : Matp.may r c n = false ∨ (Matp.may r c n = true ∧ (r == c) = false) := by
    cases h1 : Matp.may r c n
    · exact .inl rfl
    · refine .inr ⟨rfl, ?_⟩
      rw [beq_eq_false_iff_ne]
      exact fun h3 => h ⟨h1, h3⟩
  clear h
  rcases hcases with h1 | ⟨h1, h3⟩
  all_goals
    rw [h1] at M1
    clear h1
    go_enter Try.func31, Try.ntmps31
    go_wp2_with fail
    obtain ⟨hb2, hb3, hB0⟩ := blk2m w 24 24 #[.int .i64 r, .int .i64 c, .slice A n k] #[.int .i64 0, .int .i64 0, .slice none 0 0]
    generalize (w.alloc (.cells #[.int .i64 r, .int .i64 c, .slice A n k] 24)).alloc (.cells #[.int .i64 0, .int .i64 0, .slice none 0 0] 24) = W0 at *
    have hg3 : w.heap.size < w.heap.size + 1 := by omega
    have KB : Hid (∀ W, Below W0.heap.size W0 W → Below w.heap.size w W ∧ Blk W (w.heap.size + 1) 24 (mC 0 0 (.slice none 0 0))) := fun W hW => ⟨hB0.trans (hW.mono hB0.size), hb3.below hW hb3.lt⟩
    have C2 : Hid (∀ W, Below W0.heap.size W0 W → W.cell? ⟨w.heap.size, 0, none⟩ = some (.int .i64 r) ∧ W.cell? ⟨w.heap.size, 1, none⟩ = some (.int .i64 c) ∧ W.cell? ⟨w.heap.size, 2, none⟩ = some (.slice A n k)) := fun W hW => ⟨(hb2.below hW hb2.lt).cell 0, (hb2.below hW hb2.lt).cell 1, (hb2.below hW hb2.lt).cell 2⟩
    clear hb2 hb3 hB0
    generalize w.heap.size + 1 = g3 at *
    refine (M1 _).out.mono ?_; rintro e w1 ⟨rfl, hB1⟩
    obtain ⟨x0, x1, x2⟩ := C2.out w1 hB1
    have Hb4 := Lib.hid (KB.out _ hB1).2
    have HBw := Lib.hid (KB.out _ hB1).1
    clear hB1
    go_wp2_with (refine wpList_store_row rfl 24 _ _ rfl g3 (mC 0 0 (.slice none 0 0)) rfl rfl 24 (mC 0 0 (.slice none 0 0)) Hb4.out info_ms rfl (mC_one _ _ _ _ _) ?_)
    exact bodyPost_ret (results_cell_int rfl _ _ g3 (mC 0 0 (.slice none 0 0)) (.int .i64 13) rfl rfl (run_loadVar_row _ g3 24 _ (mC 0 0 (.slice none 0 0)) (0, 0) _ (Hb4.out.row _) Try.underlying24 rfl info_ms)) rfl ⟨none, 0, rfl, World.ownsRow_nil _ _ _ 1, below_row HBw.out (Nat.le_of_lt hg3) _⟩
end Go.Proofs.Ytbokbndphpdgoaa
