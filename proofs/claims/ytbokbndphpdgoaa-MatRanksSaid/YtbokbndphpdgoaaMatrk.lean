/-
  Rank: walked.
-/
import Derived.Test.YtbokbndphpdgoaaMatwk7
namespace Go.Proofs.Ytbokbndphpdgoaa
set_option linter.unusedSimpArgs false
set_option linter.unusedVariables false
open Go.RowKit

theorem rank_step {R C at_ col : Nat} {W : Nat → Nat → UInt8} (h1 : col < C) (h2 : at_ < R) : Lin.rankGo R (C - col) at_ col W = if Lin.pivot (fun t => W t col) R at_ < R then Lin.rankGo R (C - (col + 1)) (at_ + 1) (col + 1) (Lin.stepW at_ col (Lin.pivot (fun t => W t col) R at_) W W) else Lin.rankGo R (C - (col + 1)) at_ (col + 1) W := by
  have e : C - col = (C - (col + 1)) + 1 := by omega
  rw [e]
  show (if at_ < R then _ else _) = _
  rw [if_pos h2]
theorem rank_end {R C at_ col : Nat} {W : Nat → Nat → UInt8} (h : ¬ (col < C ∧ at_ < R)) : Lin.rankGo R (C - col) at_ col W = at_ := by
  by_cases h1 : col < C
  · have e : C - col = (C - (col + 1)) + 1 := by omega
    rw [e]
    show (if at_ < R then _ else _) = _
    rw [if_neg (fun h2 => h ⟨h1, h2⟩)]
  · rw [show C - col = 0 by omega]; rfl
set_option maxRecDepth 100000 in
set_option maxHeartbeats 4000000 in
theorem rank_in (R C : Nat) (A : Option Addr) (n k : Nat) (bs : List UInt8) (w : World) (hR : R ≤ 255) (hC : C ≤ 255) (hn : n = R * C) (h : Reads w w.heap.size 1 A n (bs.map B8)) :
    Calls Try.prog 29 #[.agg #[.int .i64 R, .int .i64 C, .slice A n k]] w fun e w' => e = .returned (.tuple #[.int .i64 ((Lin.rank R C (cellAt bs C) : Nat) : Int), .int .i64 0]) ∧ Below w.heap.size w w' := by
  have M1 := fun W => Lib.hid (may_any R C A n k W)
  unfold mC at M1
  have hm1 : Matp.may (R : Int) (C : Int) n = true := by
    unfold Matp.may; rw [hn, Int.natCast_mul]; simp; omega
  rw [hm1] at M1
  have WO := Lib.hid (fun (W : World) (hB : Below w.heap.size w W) => working_any (R := R) (C := C) (n := n) (k := k) (A := A) (bs := bs) (w := W) hR hC hn ((h.below hB).more hB.size))
  have CLR := Lib.hid (fun (W : World) base g A1 n1 k1 F1 A2 n2 k2 F2 (hP : Pw W base g R C A1 n1 k1 F1 A2 n2 k2 F2) (i col : Nat) (hi : i < R) (hc : col < C) => clear_any hP i col hR hC hi hc)
  obtain ⟨G, hG⟩ : ∃ G, Hid (Lin.rank R C (cellAt bs C) = G) := ⟨_, rfl⟩
  rw [hG.out]
  have HG0 : Hid (Lin.rankGo R (C - 0) 0 0 (cellAt bs C) = G) := hG
  clear hm1 hn h
  go_enter Try.func29, Try.ntmps29
  go_wp2_with fail
  have hb2 : Blk (w.alloc (.cells #[.int .i64 R, .int .i64 C, .slice A n k] 24)) w.heap.size 24 #[.int .i64 R, .int .i64 C, .slice A n k] := Blk.new _ _ _
  have hB0 : Below w.heap.size w (w.alloc (.cells #[.int .i64 R, .int .i64 C, .slice A n k] 24)) := (Below.refl _ _).alloc (Nat.le_refl _) _
  generalize w.alloc (.cells #[.int .i64 R, .int .i64 C, .slice A n k] 24) = W0 at *
  have KB : Hid (∀ W, Below W0.heap.size W0 W → Below w.heap.size w W) := fun W hW => hB0.trans (hW.mono hB0.size)
  have C2 : Hid (∀ W, Below W0.heap.size W0 W → W.cell? ⟨w.heap.size, 0, none⟩ = some (.int .i64 R) ∧ W.cell? ⟨w.heap.size, 1, none⟩ = some (.int .i64 C) ∧ W.cell? ⟨w.heap.size, 2, none⟩ = some (.slice A n k)) := fun W hW => ⟨(hb2.below hW hb2.lt).cell 0, (hb2.below hW hb2.lt).cell 1, (hb2.below hW hb2.lt).cell 2⟩
  clear hb2 hB0
  refine (M1 _).out.mono ?_; rintro e w1 ⟨rfl, hB1⟩
  obtain ⟨x0, x1, x2⟩ := C2.out w1 hB1
  replace hB1 := Lib.hid hB1
  go_wp2_with fail
  refine (WO.out _ (KB.out _ hB1.out)).mono ?_; rintro e w2 ⟨g, A1, k1, A2, n2, k2, rfl, hB2, hP2⟩
  replace hB2 := Lib.hid hB2; replace hP2 := Lib.hid hP2
  clear x0 x1 x2
  go_wp2_with fail
  go_loopw [5, 6] (fun v5 v6 wr => ∃ (at_ col : Nat) (W B : Nat → Nat → UInt8), v5 = .int .i64 at_ ∧ v6 = .int .i64 col ∧ at_ ≤ R ∧ col ≤ C ∧ Hid (Pw wr w1.heap.size g R C A1 n k1 W A2 n2 k2 B) ∧ Hid (Below w1.heap.size w1 wr) ∧ Hid (Lin.rankGo R (C - col) at_ col W = G)) (fun _ v6 _ => C - (intOf v6).toNat)
  case atStart => exact ⟨0, 0, cellAt bs C, Lin.one, rfl, rfl, by omega, by omega, hP2, hB2, HG0⟩
  case round =>
    clear hP2 hB2
    obtain ⟨at_, col, W, B, rfl, rfl, haR, hcC, HP, HB, HG⟩ := hrel
    have HBW := Lib.hid (below_then hB1.out (HB.out.mono (Nat.le_refl _)))
    obtain ⟨x0, x1, x2⟩ := C2.out wr HBW.out
    by_cases hc : col < C
    · have hc' : (col : Int) < (C : Int) := by omega
      by_cases ha : at_ < R
      · have ha' : (at_ : Int) < (R : Int) := by omega
        have CLi := CLR.out _ _ _ _ _ _ _ _ _ _ _ HP.out at_ col ha hc
        have HST := rank_step (W := W) hc ha
        by_cases hp : Lin.pivot (fun t => W t col) R at_ < R
        · simp only [hp, if_true, decide_true] at CLi HST
          replace CLi := Lib.hid CLi
          have HG2 : Hid (Lin.rankGo R (C - (col + 1)) (at_ + 1) (col + 1) (Lin.stepW at_ col (Lin.pivot (fun t => W t col) R at_) W W) = G) := by
            unfold Hid
            rw [← HST]; exact HG.out
          clear hp HST
          go_wp2_with fail
          refine CLi.out.mono ?_; rintro e w3 ⟨rfl, hB3, hP3⟩
          have HB3 := Lib.hid (HB.out.trans hB3)
          replace hP3 := Lib.hid hP3
          clear hB3 HB HP HBW CLi x0 x1 x2
          go_wp2_with fail
          go_roundw
          case rel => exact ⟨at_ + 1, col + 1, _, _, by go_num, by go_num, by omega, by omega, hP3, HB3, HG2⟩
          case measure => simp [intOf]; omega
        · simp only [hp, if_false, decide_false] at CLi HST
          replace CLi := Lib.hid CLi
          have HG2 : Hid (Lin.rankGo R (C - (col + 1)) at_ (col + 1) W = G) := by
            unfold Hid
            rw [← HST]; exact HG.out
          clear hp HST
          go_wp2_with fail
          refine CLi.out.mono ?_; rintro e w3 ⟨rfl, hB3, hP3⟩
          have HB3 := Lib.hid (HB.out.trans hB3)
          replace hP3 := Lib.hid hP3
          clear hB3 HB HP HBW CLi x0 x1 x2
          go_wp2_with fail
          go_roundw
          case rel => exact ⟨at_, col + 1, _, _, rfl, by go_num, by omega, by omega, hP3, HB3, HG2⟩
          case measure => simp [intOf]; omega
      · have ha' : (R : Int) ≤ (at_ : Int) := by omega
        have hGe : Hid (at_ = G) := by unfold Hid; rw [← HG.out, rank_end (fun h => ha h.2)]
        have HBw := Lib.hid (KB.out _ HBW.out)
        go_wp2_with fail
        go_ret2
        exact ⟨by rw [hGe.out]; rfl, HBw.out⟩
    · have hc' : (C : Int) ≤ (col : Int) := by omega
      have hGe : Hid (at_ = G) := by unfold Hid; rw [← HG.out, rank_end (fun h => hc h.1)]
      have HBw := Lib.hid (KB.out _ HBW.out)
      go_wp2_with fail
      go_ret2
      exact ⟨by rw [hGe.out]; rfl, HBw.out⟩
set_option maxRecDepth 100000 in
theorem rank_bad (r c : Int) (A : Option Addr) (n k : Nat) (w : World) (h : Matp.may r c n = false) :
    Calls Try.prog 29 #[.agg #[.int .i64 r, .int .i64 c, .slice A n k]] w fun e w' => e = .returned (.tuple #[.int .i64 0, .int .i64 13]) ∧ Below w.heap.size w w' := by
  have M1 := fun W => Lib.hid (may_any r c A n k W)
  unfold mC at M1
  rw [h] at M1
  have hB0 : Hid (Below w.heap.size w (w.alloc (.cells #[.int .i64 r, .int .i64 c, .slice A n k] 24))) := (Below.refl _ _).alloc (Nat.le_refl _) _
  clear h
  go_enter Try.func29, Try.ntmps29
  go_wp2_with fail
  refine (M1 _).out.mono ?_; rintro e w1 ⟨rfl, hB1⟩
  have HB1 := Lib.hid (below_boxed hB1)
  clear hB1
  go_wp2_with fail
  go_ret2
  exact ⟨rfl, HB1.out⟩
set_option maxRecDepth 100000 in
theorem refRank_bad (r c : Int) (A : Option Addr) (n k : Nat) (w : World) (h : Matp.may r c n = false) :
    Calls Try.prog 30 #[.agg #[.int .i64 r, .int .i64 c, .slice A n k]] w fun e w' => e = .returned (.tuple #[.int .i64 0, .int .i64 13]) ∧ Below w.heap.size w w' := by
  have M1 := fun W => Lib.hid (refMay_any r c A n k W)
  unfold mC at M1
  rw [h] at M1
  clear h
  go_enter Try.func30, Try.ntmps30
  go_wp2_with fail
  refine (M1 _).out.mono ?_; rintro e w1 ⟨rfl, hB1⟩
  have HB1 := Lib.hid (below_boxed hB1)
  clear hB1
  go_wp2_with fail
  go_ret2
  exact ⟨rfl, HB1.out⟩
end Go.Proofs.Ytbokbndphpdgoaa
