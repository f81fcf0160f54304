/-
  The law MatRanks.
-/
import Derived.Test.YtbokbndphpdgoaaMatrk
import Derived.Test.YtbokbndphpdgoaaMatrk3
import Derived.Test.YtbokbndphpdgoaaMatmul
namespace Go.Proofs.Ytbokbndphpdgoaa
set_option linter.unusedSimpArgs false
set_option linter.unusedVariables false
open Go.RowKit

set_option maxRecDepth 100000 in
set_option maxHeartbeats 8000000 in
theorem matRanks_walk (r c : Int) (A : Option Addr) (n k : Nat) (xa : List UInt8) (w : World) (_w1 : (Lit.int .i64 r).wf = true ∧ (Lit.int .i64 c).wf = true) (hnk : n ≤ k) (_m : k ≤ maxLen) (h : Reads w w.heap.size 1 A n (xa.map B8)) :
    Calls Try.prog 9 #[.agg #[.int .i64 r, .int .i64 c, .slice A n k]] w fun e w' => e = .returned (.bool true) ∧ Below w.heap.size w w' := by
  have hz := (zero_of_info info_m).1
  have G := fun r c A n k W => Lib.hid (great_any r c A n k W)
  unfold mC at G
  replace G := Lib.hid G
  have L1 := Lib.hid h.len
  have P3 := Lib.hid (fun W hW => inverse_all r c A n k xa W hW)
  have Ma := Lib.hid (MB.new (r := r) (c := c) h hnk)
  have HB := Lib.hid ((Below.refl w.heap.size w).alloc (Nat.le_refl _) (.cells #[.int .i64 r, .int .i64 c, .slice A n k] 24))
  have RB := Lib.hid (fun W (h : Matp.may r c n = false) => rank_bad r c A n k W h)
  have RB2 := Lib.hid (fun W (h : Matp.may r c n = false) => refRank_bad r c A n k W h)
  unfold MRet at P3
  unfold mC at P3
  clear h _w1 _m
  cases hm : Matp.may r c n
  · have hv : invV r c xa = (0, 0, [], 13) := by
      unfold invV
      rw [L1.out, hm, if_neg (by simp)]
    rw [hv] at P3
    simp only at P3
    have P1 := Lib.hid (fun W => RB.out W hm)
    have P2 := Lib.hid (fun W => RB2.out W hm)
    clear RB RB2 hv hm
    go_enter Try.func9, Try.ntmps9
    go_wp2_with fail
    generalize w.alloc (.cells #[.int .i64 r, .int .i64 c, .slice A n k] 24) = W0 at *
    refine (alive_any _).mono ?_; rintro e w1 ⟨rfl, hBw1⟩
    replace Ma := Lib.hid (Ma.out.below hBw1)
    replace HB := Lib.hid (below_then HB.out hBw1)
    clear hBw1
    obtain ⟨qa0, qa1, qa2⟩ := Ma.out.cells
    go_wp2_with fail
    refine ((G.out r c A n k _).out).mono ?_; rintro e w2 ⟨rfl, hBw2⟩
    clear qa0 qa1 qa2
    replace Ma := Lib.hid (Ma.out.below hBw2)
    replace HB := Lib.hid (below_then HB.out hBw2)
    clear hBw2
    obtain ⟨qa0, qa1, qa2⟩ := Ma.out.cells
    cases hg : greatV r c n
    case true =>
      go_wp2_with fail
      go_ret
      exact ⟨rfl, HB.out⟩
    case false =>
      clear hg
      go_wp2_with fail
      refine (P1.out _).mono ?_; rintro e w3 ⟨rfl, hBw3⟩
      clear qa0 qa1 qa2
      replace Ma := Lib.hid (Ma.out.below hBw3)
      replace HB := Lib.hid (below_then HB.out hBw3)
      clear hBw3
      obtain ⟨qa0, qa1, qa2⟩ := Ma.out.cells
      go_wp2_with fail
      refine (P2.out _).mono ?_; rintro e w4 ⟨rfl, hBw4⟩
      clear qa0 qa1 qa2
      replace Ma := Lib.hid (Ma.out.below hBw4)
      replace HB := Lib.hid (below_then HB.out hBw4)
      clear hBw4
      obtain ⟨qa0, qa1, qa2⟩ := Ma.out.cells
      go_wp2_with fail
      refine (P3.out _ Ma.out.rd).mono ?_; rintro e w5 ⟨Ax, kx, rfl, how5, hBw5⟩
      clear qa0 qa1 qa2
      replace Ma := Lib.hid (Ma.out.below hBw5)
      replace HB := Lib.hid (below_then HB.out hBw5)
      clear hBw5
      replace Ma := Lib.hid (Ma.out.alloc (.cells #[.int .i64 0, .int .i64 0, .slice Ax 0 kx] 24))
      replace HB := Lib.hid (below_alloc HB.out (.cells #[.int .i64 0, .int .i64 0, .slice Ax 0 kx] 24))
      obtain ⟨qa0, qa1, qa2⟩ := Ma.out.cells
      go_wp2_with fail
      go_ret
      exact ⟨rfl, HB.out⟩
  · clear RB RB2
    obtain ⟨R, C, rfl, rfl, hR, hC, hn⟩ := may_nat hm
    have P1 := Lib.hid (fun W hW => rank_in R C A n k xa W hR hC hn hW)
    have P2 := Lib.hid (fun W hW => refRank_in R C A n k xa W hR hC hn hnk hW)
    obtain ⟨ρ, hρ⟩ : ∃ ρ, Lin.rank R C (cellAt xa C) = ρ := ⟨_, rfl⟩
    rw [hρ] at P1 P2
    replace hn := Lib.hid hn
    by_cases hrc : R = C
    · subst hrc
      have hri := Lin.rank_inverse R (cellAt xa R)
      rw [hρ] at hri
      cases hi : Lin.inverse R (cellAt xa R) with
      | none =>
        have hv : invV (R : Int) (R : Int) xa = (0, 0, [], 14) := by
          unfold invV
          rw [L1.out, hm, if_pos ⟨rfl, rfl⟩]
          simp only [Int.toNat_natCast, hi]
        rw [hi] at hri
        rw [hv] at P3
        simp only at P3
        have hne : ¬ (ρ : Int) = (R : Int) := fun e => by
          have := hri.2 (by omega)
          simp at this
        have hne2 : ((ρ : Int) == (R : Int)) = false := by simp; omega
        clear hri hv hi hm hρ
        go_enter Try.func9, Try.ntmps9
        go_wp2_with fail
        generalize w.alloc (.cells #[.int .i64 (R : Int), .int .i64 (R : Int), .slice A n k] 24) = W0 at *
        refine (alive_any _).mono ?_; rintro e w1 ⟨rfl, hBw1⟩
        replace Ma := Lib.hid (Ma.out.below hBw1)
        replace HB := Lib.hid (below_then HB.out hBw1)
        clear hBw1
        obtain ⟨qa0, qa1, qa2⟩ := Ma.out.cells
        go_wp2_with fail
        refine ((G.out (R : Int) (R : Int) A n k _).out).mono ?_; rintro e w2 ⟨rfl, hBw2⟩
        clear qa0 qa1 qa2
        replace Ma := Lib.hid (Ma.out.below hBw2)
        replace HB := Lib.hid (below_then HB.out hBw2)
        clear hBw2
        obtain ⟨qa0, qa1, qa2⟩ := Ma.out.cells
        cases hg : greatV (R : Int) (R : Int) n
        case true =>
          go_wp2_with fail
          go_ret
          exact ⟨rfl, HB.out⟩
        case false =>
          clear hg
          go_wp2_with fail
          refine (P1.out _ Ma.out.rd).mono ?_; rintro e w3 ⟨rfl, hBw3⟩
          clear qa0 qa1 qa2
          replace Ma := Lib.hid (Ma.out.below hBw3)
          replace HB := Lib.hid (below_then HB.out hBw3)
          clear hBw3
          obtain ⟨qa0, qa1, qa2⟩ := Ma.out.cells
          go_wp2_with fail
          refine (P2.out _ Ma.out.rd).mono ?_; rintro e w4 ⟨rfl, hBw4⟩
          clear qa0 qa1 qa2
          replace Ma := Lib.hid (Ma.out.below hBw4)
          replace HB := Lib.hid (below_then HB.out hBw4)
          clear hBw4
          obtain ⟨qa0, qa1, qa2⟩ := Ma.out.cells
          go_wp2_with fail
          refine (P3.out _ Ma.out.rd).mono ?_; rintro e w5 ⟨Ax, kx, rfl, how5, hBw5⟩
          clear qa0 qa1 qa2
          replace Ma := Lib.hid (Ma.out.below hBw5)
          replace HB := Lib.hid (below_then HB.out hBw5)
          clear hBw5
          replace Ma := Lib.hid (Ma.out.alloc (.cells #[.int .i64 0, .int .i64 0, .slice Ax 0 kx] 24))
          replace HB := Lib.hid (below_alloc HB.out (.cells #[.int .i64 0, .int .i64 0, .slice Ax 0 kx] 24))
          obtain ⟨qa0, qa1, qa2⟩ := Ma.out.cells
          go_wp2_with fail
          go_ret
          exact ⟨rfl, HB.out⟩
      | some x =>
        have hv : invV (R : Int) (R : Int) xa = (R, R, cellsTo R x (R * R), 0) := by
          unfold invV
          rw [L1.out, hm, if_pos ⟨rfl, rfl⟩]
          simp only [Int.toNat_natCast, hi]
        rw [hi] at hri
        rw [hv] at P3
        simp only at P3
        have hρ2 : ρ = R := hri.1 rfl
        subst hρ2
        clear hri hv hi hm hρ
        generalize cellsTo ρ x (ρ * ρ) = xx at *
        go_enter Try.func9, Try.ntmps9
        go_wp2_with fail
        generalize w.alloc (.cells #[.int .i64 (ρ : Int), .int .i64 (ρ : Int), .slice A n k] 24) = W0 at *
        refine (alive_any _).mono ?_; rintro e w1 ⟨rfl, hBw1⟩
        replace Ma := Lib.hid (Ma.out.below hBw1)
        replace HB := Lib.hid (below_then HB.out hBw1)
        clear hBw1
        obtain ⟨qa0, qa1, qa2⟩ := Ma.out.cells
        go_wp2_with fail
        refine ((G.out (ρ : Int) (ρ : Int) A n k _).out).mono ?_; rintro e w2 ⟨rfl, hBw2⟩
        clear qa0 qa1 qa2
        replace Ma := Lib.hid (Ma.out.below hBw2)
        replace HB := Lib.hid (below_then HB.out hBw2)
        clear hBw2
        obtain ⟨qa0, qa1, qa2⟩ := Ma.out.cells
        cases hg : greatV (ρ : Int) (ρ : Int) n
        case true =>
          go_wp2_with fail
          go_ret
          exact ⟨rfl, HB.out⟩
        case false =>
          clear hg
          go_wp2_with fail
          refine (P1.out _ Ma.out.rd).mono ?_; rintro e w3 ⟨rfl, hBw3⟩
          clear qa0 qa1 qa2
          replace Ma := Lib.hid (Ma.out.below hBw3)
          replace HB := Lib.hid (below_then HB.out hBw3)
          clear hBw3
          obtain ⟨qa0, qa1, qa2⟩ := Ma.out.cells
          go_wp2_with fail
          refine (P2.out _ Ma.out.rd).mono ?_; rintro e w4 ⟨rfl, hBw4⟩
          clear qa0 qa1 qa2
          replace Ma := Lib.hid (Ma.out.below hBw4)
          replace HB := Lib.hid (below_then HB.out hBw4)
          clear hBw4
          obtain ⟨qa0, qa1, qa2⟩ := Ma.out.cells
          go_wp2_with fail
          refine (P3.out _ Ma.out.rd).mono ?_; rintro e w5 ⟨Ax, kx, rfl, how5, hBw5⟩
          clear qa0 qa1 qa2
          replace Ma := Lib.hid (Ma.out.below hBw5)
          replace HB := Lib.hid (below_then HB.out hBw5)
          clear hBw5
          replace Ma := Lib.hid (Ma.out.alloc (.cells #[.int .i64 (ρ : Nat), .int .i64 (ρ : Nat), .slice Ax xx.length kx] 24))
          replace HB := Lib.hid (below_alloc HB.out (.cells #[.int .i64 (ρ : Nat), .int .i64 (ρ : Nat), .slice Ax xx.length kx] 24))
          obtain ⟨qa0, qa1, qa2⟩ := Ma.out.cells
          go_wp2_with fail
          go_ret
          exact ⟨rfl, HB.out⟩
    · have hne : ((R : Int) == (C : Int)) = false := by simp; omega
      have hne2 : ((R : Int) != (C : Int)) = true := by simp; omega
      have hq : ∃ r1 c1 cs1 er1, invV (R : Int) (C : Int) xa = (r1, c1, cs1, er1) := ⟨_, _, _, _, rfl⟩
      obtain ⟨r1, c1, cs1, er1, hv⟩ := hq
      rw [hv] at P3
      simp only at P3
      clear hm hρ hrc hv
      go_enter Try.func9, Try.ntmps9
      go_wp2_with fail
      generalize w.alloc (.cells #[.int .i64 (R : Int), .int .i64 (C : Int), .slice A n k] 24) = W0 at *
      refine (alive_any _).mono ?_; rintro e w1 ⟨rfl, hBw1⟩
      replace Ma := Lib.hid (Ma.out.below hBw1)
      replace HB := Lib.hid (below_then HB.out hBw1)
      clear hBw1
      obtain ⟨qa0, qa1, qa2⟩ := Ma.out.cells
      go_wp2_with fail
      refine ((G.out (R : Int) (C : Int) A n k _).out).mono ?_; rintro e w2 ⟨rfl, hBw2⟩
      clear qa0 qa1 qa2
      replace Ma := Lib.hid (Ma.out.below hBw2)
      replace HB := Lib.hid (below_then HB.out hBw2)
      clear hBw2
      obtain ⟨qa0, qa1, qa2⟩ := Ma.out.cells
      cases hg : greatV (R : Int) (C : Int) n
      case true =>
        go_wp2_with fail
        go_ret
        exact ⟨rfl, HB.out⟩
      case false =>
        clear hg
        go_wp2_with fail
        refine (P1.out _ Ma.out.rd).mono ?_; rintro e w3 ⟨rfl, hBw3⟩
        clear qa0 qa1 qa2
        replace Ma := Lib.hid (Ma.out.below hBw3)
        replace HB := Lib.hid (below_then HB.out hBw3)
        clear hBw3
        obtain ⟨qa0, qa1, qa2⟩ := Ma.out.cells
        go_wp2_with fail
        refine (P2.out _ Ma.out.rd).mono ?_; rintro e w4 ⟨rfl, hBw4⟩
        clear qa0 qa1 qa2
        replace Ma := Lib.hid (Ma.out.below hBw4)
        replace HB := Lib.hid (below_then HB.out hBw4)
        clear hBw4
        obtain ⟨qa0, qa1, qa2⟩ := Ma.out.cells
        go_wp2_with fail
        refine (P3.out _ Ma.out.rd).mono ?_; rintro e w5 ⟨Ax, kx, rfl, how5, hBw5⟩
        clear qa0 qa1 qa2
        replace Ma := Lib.hid (Ma.out.below hBw5)
        replace HB := Lib.hid (below_then HB.out hBw5)
        clear hBw5
        replace Ma := Lib.hid (Ma.out.alloc (.cells #[.int .i64 r1, .int .i64 c1, .slice Ax cs1.length kx] 24))
        replace HB := Lib.hid (below_alloc HB.out (.cells #[.int .i64 r1, .int .i64 c1, .slice Ax cs1.length kx] 24))
        obtain ⟨qa0, qa1, qa2⟩ := Ma.out.cells
        go_wp2_with fail
        go_ret
        exact ⟨rfl, HB.out⟩

end Go.Proofs.Ytbokbndphpdgoaa
