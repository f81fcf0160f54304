/-
  The law MatTurns.
-/
import Derived.Test.YtbokbndphpdgoaaMatwk7
import Derived.Test.YtbokbndphpdgoaaMatmul
namespace Go.Proofs.Ytbokbndphpdgoaa
set_option linter.unusedSimpArgs false
set_option linter.unusedVariables false
open Go.RowKit

set_option maxRecDepth 100000 in
set_option maxHeartbeats 8000000 in
theorem matTurns_walk (r c : Int) (A : Option Addr) (n k : Nat) (xa : List UInt8) (r' c' : Int) (A' : Option Addr) (n' k' : Nat) (xb : List UInt8) (w : World) (_w1 : (Lit.int .i64 r).wf = true ∧ (Lit.int .i64 c).wf = true) (hnk : n ≤ k) (_m : k ≤ maxLen) (h : Reads w w.heap.size 1 A n (xa.map B8))
    (_w2 : (Lit.int .i64 r').wf = true ∧ (Lit.int .i64 c').wf = true) (hnk' : n' ≤ k') (_m' : k' ≤ maxLen) (h' : Reads w w.heap.size 1 A' n' (xb.map B8)) :
    Calls Try.prog 11 #[.agg #[.int .i64 r, .int .i64 c, .slice A n k], .agg #[.int .i64 r', .int .i64 c', .slice A' n' k']] w fun e w' => e = .returned (.bool true) ∧ Below w.heap.size w w' := by
  have hz := (zero_of_info info_m).1
  have G := fun r c A n k W => Lib.hid (great_any r c A n k W)
  unfold mC at G
  replace G := Lib.hid G
  have L1 := Lib.hid h.len
  have L2 := Lib.hid h'.len
  have N1 := Lib.hid hnk; have N2 := Lib.hid hnk'
  have CA := Lib.hid (invV_cases r c xa)
  have CB := Lib.hid (invV_cases r' c' xb)
  have P1 := Lib.hid (fun W hW => inverse_all r c A n k xa W hW)
  have P2 := Lib.hid (fun W hW => inverse_all r' c' A' n' k' xb W hW)
  have P5 := Lib.hid (fun r c A n k xs W hW => inverse_all r c A n k xs W hW)
  rcases hv1 : invV r c xa with ⟨r1, c1, cs1, er1⟩
  rcases hv2 : invV r' c' xb with ⟨r2, c2, cs2, er2⟩
  rw [hv1] at CA P1
  rw [hv2] at CB P2
  simp only at P1 P2
  unfold MRet at P1 P2 P5
  unfold mC at P1 P2 P5
  clear hv1 hv2
  obtain ⟨Ma, Mb, hB⟩ := boxes2 (r := r) (c := c) (r' := r') (c' := c') h hnk h' hnk'
  replace Ma := Lib.hid Ma; replace Mb := Lib.hid Mb
  have HB := Lib.hid hB
  clear hB h h' hnk hnk' _w1 _w2 _m _m'
  have hcase : er1 ≠ 0 ∨ (er1 = 0 ∧ er2 ≠ 0) ∨ (er1 = 0 ∧ er2 = 0 ∧ r ≠ r') ∨ (er1 = 0 ∧ er2 = 0 ∧ r = r') := by omega
  rcases hcase with hq | ⟨hq1, hq⟩ | ⟨hq1, hq2, hq⟩ | ⟨hq1, hq2, hq3⟩
  · skip
    have hz2 : (er1 != 0) = true := by rw [bne_iff_ne]; exact hq
    have hz3 : (er1 == 0) = false := by rw [beq_eq_false_iff_ne]; exact hq
    go_enter Try.func11, Try.ntmps11
    go_wp2_with fail
    generalize (w.alloc (.cells #[.int .i64 r, .int .i64 c, .slice A n k] 24)).alloc (.cells #[.int .i64 r', .int .i64 c', .slice A' n' k'] 24) = W0 at *
    generalize w.heap.size + 1 = gb at *
    refine (alive_any _).mono ?_; rintro e w1 ⟨rfl, hBw1⟩
    replace Ma := Lib.hid (Ma.out.below hBw1)
    replace Mb := Lib.hid (Mb.out.below hBw1)
    replace HB := Lib.hid (below_then HB.out hBw1)
    clear hBw1
    obtain ⟨qa0, qa1, qa2⟩ := Ma.out.cells
    obtain ⟨qb0, qb1, qb2⟩ := Mb.out.cells
    go_wp2_with fail
    refine ((G.out r c A n k _).out).mono ?_; rintro e w2 ⟨rfl, hBw2⟩
    clear qa0 qa1 qa2 qb0 qb1 qb2
    replace Ma := Lib.hid (Ma.out.below hBw2)
    replace Mb := Lib.hid (Mb.out.below hBw2)
    replace HB := Lib.hid (below_then HB.out hBw2)
    clear hBw2
    obtain ⟨qa0, qa1, qa2⟩ := Ma.out.cells
    obtain ⟨qb0, qb1, qb2⟩ := Mb.out.cells
    cases hg : greatV r c n
    case true =>
      go_wp2_with fail
      go_ret
      exact ⟨rfl, HB.out⟩
    case false =>
      clear hg
      go_wp2_with fail
      refine ((G.out r' c' A' n' k' _).out).mono ?_; rintro e w3 ⟨rfl, hBw3⟩
      clear qa0 qa1 qa2 qb0 qb1 qb2
      replace Ma := Lib.hid (Ma.out.below hBw3)
      replace Mb := Lib.hid (Mb.out.below hBw3)
      replace HB := Lib.hid (below_then HB.out hBw3)
      clear hBw3
      obtain ⟨qa0, qa1, qa2⟩ := Ma.out.cells
      obtain ⟨qb0, qb1, qb2⟩ := Mb.out.cells
      cases hg : greatV r' c' n'
      case true =>
        go_wp2_with fail
        go_ret
        exact ⟨rfl, HB.out⟩
      case false =>
        clear hg
        go_wp2_with fail
        refine (P1.out _ Ma.out.rd).mono ?_; rintro e w4 ⟨Ax, kx, rfl, how4, hBw4⟩
        have hpw4 := mret_parts how4
        clear qa0 qa1 qa2 qb0 qb1 qb2
        replace Ma := Lib.hid (Ma.out.below hBw4)
        replace Mb := Lib.hid (Mb.out.below hBw4)
        replace HB := Lib.hid (below_then HB.out hBw4)
        clear hBw4
        replace Ma := Lib.hid (Ma.out.alloc (.cells #[.int .i64 r1, .int .i64 c1, .slice Ax (cs1).length kx] 24))
        replace Mb := Lib.hid (Mb.out.alloc (.cells #[.int .i64 r1, .int .i64 c1, .slice Ax (cs1).length kx] 24))
        replace HB := Lib.hid (below_alloc HB.out (.cells #[.int .i64 r1, .int .i64 c1, .slice Ax (cs1).length kx] 24))
        have Mx := Lib.hid (MB.new (r := r1) (c := c1) hpw4.1 hpw4.2)
        clear hpw4 how4
        obtain ⟨qa0, qa1, qa2⟩ := Ma.out.cells
        obtain ⟨qb0, qb1, qb2⟩ := Mb.out.cells
        obtain ⟨qx0, qx1, qx2⟩ := Mx.out.cells
        go_wp2_with fail
        generalize w4.alloc (.cells #[.int .i64 r1, .int .i64 c1, .slice Ax (cs1).length kx] 24) = w4a at *
        generalize w4.heap.size = gx at *
        refine (P2.out _ Mb.out.rd).mono ?_; rintro e w5 ⟨Ay, ky, rfl, how5, hBw5⟩
        clear qa0 qa1 qa2 qb0 qb1 qb2 qx0 qx1 qx2
        replace Ma := Lib.hid (Ma.out.below hBw5)
        replace Mb := Lib.hid (Mb.out.below hBw5)
        replace Mx := Lib.hid (Mx.out.below hBw5)
        replace HB := Lib.hid (below_then HB.out hBw5)
        clear hBw5
        clear how5
        replace Ma := Lib.hid (Ma.out.alloc (.cells #[.int .i64 r2, .int .i64 c2, .slice Ay (cs2).length ky] 24))
        replace Mb := Lib.hid (Mb.out.alloc (.cells #[.int .i64 r2, .int .i64 c2, .slice Ay (cs2).length ky] 24))
        replace Mx := Lib.hid (Mx.out.alloc (.cells #[.int .i64 r2, .int .i64 c2, .slice Ay (cs2).length ky] 24))
        replace HB := Lib.hid (below_alloc HB.out (.cells #[.int .i64 r2, .int .i64 c2, .slice Ay (cs2).length ky] 24))
        obtain ⟨qa0, qa1, qa2⟩ := Ma.out.cells
        obtain ⟨qb0, qb1, qb2⟩ := Mb.out.cells
        obtain ⟨qx0, qx1, qx2⟩ := Mx.out.cells
        go_wp2_with fail
        go_ret
        exact ⟨rfl, HB.out⟩
  · skip
    subst hq1
    have hz2 : (er2 != 0) = true := by rw [bne_iff_ne]; exact hq
    have hz3 : (er2 == 0) = false := by rw [beq_eq_false_iff_ne]; exact hq
    go_enter Try.func11, Try.ntmps11
    go_wp2_with fail
    generalize (w.alloc (.cells #[.int .i64 r, .int .i64 c, .slice A n k] 24)).alloc (.cells #[.int .i64 r', .int .i64 c', .slice A' n' k'] 24) = W0 at *
    generalize w.heap.size + 1 = gb at *
    refine (alive_any _).mono ?_; rintro e w1 ⟨rfl, hBw1⟩
    replace Ma := Lib.hid (Ma.out.below hBw1)
    replace Mb := Lib.hid (Mb.out.below hBw1)
    replace HB := Lib.hid (below_then HB.out hBw1)
    clear hBw1
    obtain ⟨qa0, qa1, qa2⟩ := Ma.out.cells
    obtain ⟨qb0, qb1, qb2⟩ := Mb.out.cells
    go_wp2_with fail
    refine ((G.out r c A n k _).out).mono ?_; rintro e w2 ⟨rfl, hBw2⟩
    clear qa0 qa1 qa2 qb0 qb1 qb2
    replace Ma := Lib.hid (Ma.out.below hBw2)
    replace Mb := Lib.hid (Mb.out.below hBw2)
    replace HB := Lib.hid (below_then HB.out hBw2)
    clear hBw2
    obtain ⟨qa0, qa1, qa2⟩ := Ma.out.cells
    obtain ⟨qb0, qb1, qb2⟩ := Mb.out.cells
    cases hg : greatV r c n
    case true =>
      go_wp2_with fail
      go_ret
      exact ⟨rfl, HB.out⟩
    case false =>
      clear hg
      go_wp2_with fail
      refine ((G.out r' c' A' n' k' _).out).mono ?_; rintro e w3 ⟨rfl, hBw3⟩
      clear qa0 qa1 qa2 qb0 qb1 qb2
      replace Ma := Lib.hid (Ma.out.below hBw3)
      replace Mb := Lib.hid (Mb.out.below hBw3)
      replace HB := Lib.hid (below_then HB.out hBw3)
      clear hBw3
      obtain ⟨qa0, qa1, qa2⟩ := Ma.out.cells
      obtain ⟨qb0, qb1, qb2⟩ := Mb.out.cells
      cases hg : greatV r' c' n'
      case true =>
        go_wp2_with fail
        go_ret
        exact ⟨rfl, HB.out⟩
      case false =>
        clear hg
        go_wp2_with fail
        refine (P1.out _ Ma.out.rd).mono ?_; rintro e w4 ⟨Ax, kx, rfl, how4, hBw4⟩
        have hpw4 := mret_parts how4
        clear qa0 qa1 qa2 qb0 qb1 qb2
        replace Ma := Lib.hid (Ma.out.below hBw4)
        replace Mb := Lib.hid (Mb.out.below hBw4)
        replace HB := Lib.hid (below_then HB.out hBw4)
        clear hBw4
        replace Ma := Lib.hid (Ma.out.alloc (.cells #[.int .i64 r1, .int .i64 c1, .slice Ax (cs1).length kx] 24))
        replace Mb := Lib.hid (Mb.out.alloc (.cells #[.int .i64 r1, .int .i64 c1, .slice Ax (cs1).length kx] 24))
        replace HB := Lib.hid (below_alloc HB.out (.cells #[.int .i64 r1, .int .i64 c1, .slice Ax (cs1).length kx] 24))
        have Mx := Lib.hid (MB.new (r := r1) (c := c1) hpw4.1 hpw4.2)
        clear hpw4 how4
        obtain ⟨qa0, qa1, qa2⟩ := Ma.out.cells
        obtain ⟨qb0, qb1, qb2⟩ := Mb.out.cells
        obtain ⟨qx0, qx1, qx2⟩ := Mx.out.cells
        go_wp2_with fail
        generalize w4.alloc (.cells #[.int .i64 r1, .int .i64 c1, .slice Ax (cs1).length kx] 24) = w4a at *
        generalize w4.heap.size = gx at *
        refine (P2.out _ Mb.out.rd).mono ?_; rintro e w5 ⟨Ay, ky, rfl, how5, hBw5⟩
        clear qa0 qa1 qa2 qb0 qb1 qb2 qx0 qx1 qx2
        replace Ma := Lib.hid (Ma.out.below hBw5)
        replace Mb := Lib.hid (Mb.out.below hBw5)
        replace Mx := Lib.hid (Mx.out.below hBw5)
        replace HB := Lib.hid (below_then HB.out hBw5)
        clear hBw5
        clear how5
        replace Ma := Lib.hid (Ma.out.alloc (.cells #[.int .i64 r2, .int .i64 c2, .slice Ay (cs2).length ky] 24))
        replace Mb := Lib.hid (Mb.out.alloc (.cells #[.int .i64 r2, .int .i64 c2, .slice Ay (cs2).length ky] 24))
        replace Mx := Lib.hid (Mx.out.alloc (.cells #[.int .i64 r2, .int .i64 c2, .slice Ay (cs2).length ky] 24))
        replace HB := Lib.hid (below_alloc HB.out (.cells #[.int .i64 r2, .int .i64 c2, .slice Ay (cs2).length ky] 24))
        obtain ⟨qa0, qa1, qa2⟩ := Ma.out.cells
        obtain ⟨qb0, qb1, qb2⟩ := Mb.out.cells
        obtain ⟨qx0, qx1, qx2⟩ := Mx.out.cells
        go_wp2_with fail
        go_ret
        exact ⟨rfl, HB.out⟩
  · skip
    subst hq1 hq2
    have hne : (r == r') = false := by rw [beq_eq_false_iff_ne]; exact hq
    have hne2 : (r != r') = true := by unfold bne; rw [hne]; rfl
    go_enter Try.func11, Try.ntmps11
    go_wp2_with fail
    generalize (w.alloc (.cells #[.int .i64 r, .int .i64 c, .slice A n k] 24)).alloc (.cells #[.int .i64 r', .int .i64 c', .slice A' n' k'] 24) = W0 at *
    generalize w.heap.size + 1 = gb at *
    refine (alive_any _).mono ?_; rintro e w1 ⟨rfl, hBw1⟩
    replace Ma := Lib.hid (Ma.out.below hBw1)
    replace Mb := Lib.hid (Mb.out.below hBw1)
    replace HB := Lib.hid (below_then HB.out hBw1)
    clear hBw1
    obtain ⟨qa0, qa1, qa2⟩ := Ma.out.cells
    obtain ⟨qb0, qb1, qb2⟩ := Mb.out.cells
    go_wp2_with fail
    refine ((G.out r c A n k _).out).mono ?_; rintro e w2 ⟨rfl, hBw2⟩
    clear qa0 qa1 qa2 qb0 qb1 qb2
    replace Ma := Lib.hid (Ma.out.below hBw2)
    replace Mb := Lib.hid (Mb.out.below hBw2)
    replace HB := Lib.hid (below_then HB.out hBw2)
    clear hBw2
    obtain ⟨qa0, qa1, qa2⟩ := Ma.out.cells
    obtain ⟨qb0, qb1, qb2⟩ := Mb.out.cells
    cases hg : greatV r c n
    case true =>
      go_wp2_with fail
      go_ret
      exact ⟨rfl, HB.out⟩
    case false =>
      clear hg
      go_wp2_with fail
      refine ((G.out r' c' A' n' k' _).out).mono ?_; rintro e w3 ⟨rfl, hBw3⟩
      clear qa0 qa1 qa2 qb0 qb1 qb2
      replace Ma := Lib.hid (Ma.out.below hBw3)
      replace Mb := Lib.hid (Mb.out.below hBw3)
      replace HB := Lib.hid (below_then HB.out hBw3)
      clear hBw3
      obtain ⟨qa0, qa1, qa2⟩ := Ma.out.cells
      obtain ⟨qb0, qb1, qb2⟩ := Mb.out.cells
      cases hg : greatV r' c' n'
      case true =>
        go_wp2_with fail
        go_ret
        exact ⟨rfl, HB.out⟩
      case false =>
        clear hg
        go_wp2_with fail
        refine (P1.out _ Ma.out.rd).mono ?_; rintro e w4 ⟨Ax, kx, rfl, how4, hBw4⟩
        have hpw4 := mret_parts how4
        clear qa0 qa1 qa2 qb0 qb1 qb2
        replace Ma := Lib.hid (Ma.out.below hBw4)
        replace Mb := Lib.hid (Mb.out.below hBw4)
        replace HB := Lib.hid (below_then HB.out hBw4)
        clear hBw4
        replace Ma := Lib.hid (Ma.out.alloc (.cells #[.int .i64 r1, .int .i64 c1, .slice Ax (cs1).length kx] 24))
        replace Mb := Lib.hid (Mb.out.alloc (.cells #[.int .i64 r1, .int .i64 c1, .slice Ax (cs1).length kx] 24))
        replace HB := Lib.hid (below_alloc HB.out (.cells #[.int .i64 r1, .int .i64 c1, .slice Ax (cs1).length kx] 24))
        have Mx := Lib.hid (MB.new (r := r1) (c := c1) hpw4.1 hpw4.2)
        clear hpw4 how4
        obtain ⟨qa0, qa1, qa2⟩ := Ma.out.cells
        obtain ⟨qb0, qb1, qb2⟩ := Mb.out.cells
        obtain ⟨qx0, qx1, qx2⟩ := Mx.out.cells
        go_wp2_with fail
        generalize w4.alloc (.cells #[.int .i64 r1, .int .i64 c1, .slice Ax (cs1).length kx] 24) = w4a at *
        generalize w4.heap.size = gx at *
        refine (P2.out _ Mb.out.rd).mono ?_; rintro e w5 ⟨Ay, ky, rfl, how5, hBw5⟩
        clear qa0 qa1 qa2 qb0 qb1 qb2 qx0 qx1 qx2
        replace Ma := Lib.hid (Ma.out.below hBw5)
        replace Mb := Lib.hid (Mb.out.below hBw5)
        replace Mx := Lib.hid (Mx.out.below hBw5)
        replace HB := Lib.hid (below_then HB.out hBw5)
        clear hBw5
        clear how5
        replace Ma := Lib.hid (Ma.out.alloc (.cells #[.int .i64 r2, .int .i64 c2, .slice Ay (cs2).length ky] 24))
        replace Mb := Lib.hid (Mb.out.alloc (.cells #[.int .i64 r2, .int .i64 c2, .slice Ay (cs2).length ky] 24))
        replace Mx := Lib.hid (Mx.out.alloc (.cells #[.int .i64 r2, .int .i64 c2, .slice Ay (cs2).length ky] 24))
        replace HB := Lib.hid (below_alloc HB.out (.cells #[.int .i64 r2, .int .i64 c2, .slice Ay (cs2).length ky] 24))
        obtain ⟨qa0, qa1, qa2⟩ := Ma.out.cells
        obtain ⟨qb0, qb1, qb2⟩ := Mb.out.cells
        obtain ⟨qx0, qx1, qx2⟩ := Mx.out.cells
        go_wp2_with fail
        go_ret
        exact ⟨rfl, HB.out⟩
  · skip
    subst hq1 hq2 hq3
    obtain ⟨R, X, rfl, rfl, hR, hla, hx1, hX⟩ : ∃ (R : Nat) (X : Nat → Nat → UInt8), r = (R : Int) ∧ c = (R : Int) ∧ R ≤ 255 ∧ xa.length = R * R ∧ (r1, c1, cs1, (0 : Int)) = (R, R, cellsTo R X (R * R), 0) ∧ Lin.inverse R (cellAt xa R) = some X := by
      rcases CA.out with (⟨h1, _⟩ | ⟨h1, _⟩) | h1
      · injection h1 with _ h1; injection h1 with _ h1; injection h1 with _ h1; omega
      · injection h1 with _ h1; injection h1 with _ h1; injection h1 with _ h1; omega
      · exact h1
    obtain ⟨R', Y, hrr, rfl, hR', hlb, hy1, hY⟩ : ∃ (R' : Nat) (X : Nat → Nat → UInt8), (R : Int) = (R' : Int) ∧ c' = (R' : Int) ∧ R' ≤ 255 ∧ xb.length = R' * R' ∧ (r2, c2, cs2, (0 : Int)) = (R', R', cellsTo R' X (R' * R'), 0) ∧ Lin.inverse R' (cellAt xb R') = some X := by
      rcases CB.out with (⟨h1, _⟩ | ⟨h1, _⟩) | h1
      · injection h1 with _ h1; injection h1 with _ h1; injection h1 with _ h1; omega
      · injection h1 with _ h1; injection h1 with _ h1; injection h1 with _ h1; omega
      · exact h1
    obtain rfl : R = R' := by omega
    obtain ⟨rfl, rfl, rfl, -⟩ : R = r1 ∧ R = c1 ∧ cs1 = cellsTo R X (R * R) ∧ True := by simp at hx1; exact ⟨hx1.1.symm, hx1.2.1.symm, hx1.2.2, trivial⟩
    obtain ⟨rfl, rfl, rfl, -⟩ : R = r2 ∧ R = c2 ∧ cs2 = cellsTo R Y (R * R) ∧ True := by simp at hy1; exact ⟨hy1.1.symm, hy1.2.1.symm, hy1.2.2, trivial⟩
    obtain ⟨Z, hZ, hZe⟩ := inv_mul hX hY
    have hn : n = R * R := by have := L1.out; omega
    have hn' : n' = R * R := by have := L2.out; omega
    have lx : (cellsTo R X (R * R)).length = R * R := cellsTo_len _ _ _
    have ly : (cellsTo R Y (R * R)).length = R * R := cellsTo_len _ _ _
    have lab : (mulC xa xb R R R).length = R * R := mulC_len _ _ _ _ _
    have P5b : Hid (∀ Ap kp W, Reads W W.heap.size 1 Ap (mulC xa xb R R R).length ((mulC xa xb R R R).map B8) → Calls Try.prog 31 #[.agg #[.int .i64 R, .int .i64 R, .slice Ap (mulC xa xb R R R).length kp]] W (MRet W R R (mulC (cellsTo R Y (R * R)) (cellsTo R X (R * R)) R R R) 0)) := fun Ap kp W hW => by
      have h1 := inverse_in R Ap (mulC xa xb R R R).length kp (mulC xa xb R R R) W hR lab hW
      refine h1.mono fun e w' hr => ?_
      rw [hZ] at hr
      rw [← hZe]
      exact hr
    have P3 : Hid (∀ W, Reads W W.heap.size 1 A n (xa.map B8) → Reads W W.heap.size 1 A' n' (xb.map B8) → Calls Try.prog 27 #[.agg (mC R R (.slice A n k)), .agg (mC R R (.slice A' n' k'))] W (MRet W R R (mulC xa xb R R R) 0)) := fun W h1 h2 => mul_in R R R A A' n k n' k' xa xb W hR hR hR hn N1.out hn' N2.out h1 h2
    have P4 : Hid (∀ (Ax Ay : Option Addr) (kx ky : Nat) W, (cellsTo R X (R * R)).length ≤ kx → (cellsTo R Y (R * R)).length ≤ ky → Reads W W.heap.size 1 Ax (cellsTo R X (R * R)).length ((cellsTo R X (R * R)).map B8) → Reads W W.heap.size 1 Ay (cellsTo R Y (R * R)).length ((cellsTo R Y (R * R)).map B8) → Calls Try.prog 27 #[.agg (mC R R (.slice Ay (cellsTo R Y (R * R)).length ky)), .agg (mC R R (.slice Ax (cellsTo R X (R * R)).length kx))] W (MRet W R R (mulC (cellsTo R Y (R * R)) (cellsTo R X (R * R)) R R R) 0)) := fun Ax Ay kx ky W hk1 hk2 h1 h2 => mul_in R R R Ay Ax _ ky _ kx _ _ W hR hR hR ly hk2 lx hk1 h2 h1
    clear P5 hZ hZe hX hY hx1 hy1 lx ly lab hn hn' hla hlb hrr CA CB
    generalize mulC (cellsTo R Y (R * R)) (cellsTo R X (R * R)) R R R = xq at *
    generalize mulC xa xb R R R = xp at *
    generalize cellsTo R X (R * R) = xx at *
    generalize cellsTo R Y (R * R) = xy at *
    unfold MRet at P3 P4 P5b
    unfold mC at P3 P4 P5b
    go_enter Try.func11, Try.ntmps11
    go_wp2_with fail
    generalize (w.alloc (.cells #[.int .i64 R, .int .i64 R, .slice A n k] 24)).alloc (.cells #[.int .i64 R, .int .i64 R, .slice A' n' k'] 24) = W0 at *
    generalize w.heap.size + 1 = gb at *
    refine (alive_any _).mono ?_; rintro e w1 ⟨rfl, hBw1⟩
    replace Ma := Lib.hid (Ma.out.below hBw1)
    replace Mb := Lib.hid (Mb.out.below hBw1)
    replace HB := Lib.hid (below_then HB.out hBw1)
    clear hBw1
    obtain ⟨qa0, qa1, qa2⟩ := Ma.out.cells
    obtain ⟨qb0, qb1, qb2⟩ := Mb.out.cells
    go_wp2_with fail
    refine ((G.out R R A n k _).out).mono ?_; rintro e w2 ⟨rfl, hBw2⟩
    clear qa0 qa1 qa2 qb0 qb1 qb2
    replace Ma := Lib.hid (Ma.out.below hBw2)
    replace Mb := Lib.hid (Mb.out.below hBw2)
    replace HB := Lib.hid (below_then HB.out hBw2)
    clear hBw2
    obtain ⟨qa0, qa1, qa2⟩ := Ma.out.cells
    obtain ⟨qb0, qb1, qb2⟩ := Mb.out.cells
    cases hg : greatV R R n
    case true =>
      go_wp2_with fail
      go_ret
      exact ⟨rfl, HB.out⟩
    case false =>
      clear hg
      go_wp2_with fail
      refine ((G.out R R A' n' k' _).out).mono ?_; rintro e w3 ⟨rfl, hBw3⟩
      clear qa0 qa1 qa2 qb0 qb1 qb2
      replace Ma := Lib.hid (Ma.out.below hBw3)
      replace Mb := Lib.hid (Mb.out.below hBw3)
      replace HB := Lib.hid (below_then HB.out hBw3)
      clear hBw3
      obtain ⟨qa0, qa1, qa2⟩ := Ma.out.cells
      obtain ⟨qb0, qb1, qb2⟩ := Mb.out.cells
      cases hg : greatV R R n'
      case true =>
        go_wp2_with fail
        go_ret
        exact ⟨rfl, HB.out⟩
      case false =>
        clear hg
        go_wp2_with fail
        refine (P1.out _ Ma.out.rd).mono ?_; rintro e w4 ⟨Ax, kx, rfl, how4, hBw4⟩
        have hpw4 := mret_parts how4
        clear qa0 qa1 qa2 qb0 qb1 qb2
        replace Ma := Lib.hid (Ma.out.below hBw4)
        replace Mb := Lib.hid (Mb.out.below hBw4)
        replace HB := Lib.hid (below_then HB.out hBw4)
        clear hBw4
        replace Ma := Lib.hid (Ma.out.alloc (.cells #[.int .i64 (R : Nat), .int .i64 (R : Nat), .slice Ax (xx).length kx] 24))
        replace Mb := Lib.hid (Mb.out.alloc (.cells #[.int .i64 (R : Nat), .int .i64 (R : Nat), .slice Ax (xx).length kx] 24))
        replace HB := Lib.hid (below_alloc HB.out (.cells #[.int .i64 (R : Nat), .int .i64 (R : Nat), .slice Ax (xx).length kx] 24))
        have Mx := Lib.hid (MB.new (r := (R : Nat)) (c := (R : Nat)) hpw4.1 hpw4.2)
        clear hpw4 how4
        obtain ⟨qa0, qa1, qa2⟩ := Ma.out.cells
        obtain ⟨qb0, qb1, qb2⟩ := Mb.out.cells
        obtain ⟨qx0, qx1, qx2⟩ := Mx.out.cells
        go_wp2_with fail
        generalize w4.alloc (.cells #[.int .i64 (R : Nat), .int .i64 (R : Nat), .slice Ax (xx).length kx] 24) = w4a at *
        generalize w4.heap.size = gx at *
        refine (P2.out _ Mb.out.rd).mono ?_; rintro e w5 ⟨Ay, ky, rfl, how5, hBw5⟩
        have hpw5 := mret_parts how5
        clear qa0 qa1 qa2 qb0 qb1 qb2 qx0 qx1 qx2
        replace Ma := Lib.hid (Ma.out.below hBw5)
        replace Mb := Lib.hid (Mb.out.below hBw5)
        replace Mx := Lib.hid (Mx.out.below hBw5)
        replace HB := Lib.hid (below_then HB.out hBw5)
        clear hBw5
        replace Ma := Lib.hid (Ma.out.alloc (.cells #[.int .i64 (R : Nat), .int .i64 (R : Nat), .slice Ay (xy).length ky] 24))
        replace Mb := Lib.hid (Mb.out.alloc (.cells #[.int .i64 (R : Nat), .int .i64 (R : Nat), .slice Ay (xy).length ky] 24))
        replace Mx := Lib.hid (Mx.out.alloc (.cells #[.int .i64 (R : Nat), .int .i64 (R : Nat), .slice Ay (xy).length ky] 24))
        replace HB := Lib.hid (below_alloc HB.out (.cells #[.int .i64 (R : Nat), .int .i64 (R : Nat), .slice Ay (xy).length ky] 24))
        have My := Lib.hid (MB.new (r := (R : Nat)) (c := (R : Nat)) hpw5.1 hpw5.2)
        clear hpw5 how5
        obtain ⟨qa0, qa1, qa2⟩ := Ma.out.cells
        obtain ⟨qb0, qb1, qb2⟩ := Mb.out.cells
        obtain ⟨qx0, qx1, qx2⟩ := Mx.out.cells
        obtain ⟨qy0, qy1, qy2⟩ := My.out.cells
        go_wp2_with fail
        generalize w5.alloc (.cells #[.int .i64 (R : Nat), .int .i64 (R : Nat), .slice Ay (xy).length ky] 24) = w5a at *
        generalize w5.heap.size = gy at *
        refine (P3.out _ Ma.out.rd Mb.out.rd).mono ?_; rintro e w6 ⟨Ap, kp, rfl, how6, hBw6⟩
        have hpw6 := mret_parts how6
        clear qa0 qa1 qa2 qb0 qb1 qb2 qx0 qx1 qx2 qy0 qy1 qy2
        replace Ma := Lib.hid (Ma.out.below hBw6)
        replace Mb := Lib.hid (Mb.out.below hBw6)
        replace Mx := Lib.hid (Mx.out.below hBw6)
        replace My := Lib.hid (My.out.below hBw6)
        replace HB := Lib.hid (below_then HB.out hBw6)
        clear hBw6
        replace Ma := Lib.hid (Ma.out.alloc (.cells #[.int .i64 (R : Nat), .int .i64 (R : Nat), .slice Ap (xp).length kp] 24))
        replace Mb := Lib.hid (Mb.out.alloc (.cells #[.int .i64 (R : Nat), .int .i64 (R : Nat), .slice Ap (xp).length kp] 24))
        replace Mx := Lib.hid (Mx.out.alloc (.cells #[.int .i64 (R : Nat), .int .i64 (R : Nat), .slice Ap (xp).length kp] 24))
        replace My := Lib.hid (My.out.alloc (.cells #[.int .i64 (R : Nat), .int .i64 (R : Nat), .slice Ap (xp).length kp] 24))
        replace HB := Lib.hid (below_alloc HB.out (.cells #[.int .i64 (R : Nat), .int .i64 (R : Nat), .slice Ap (xp).length kp] 24))
        have Mp := Lib.hid (MB.new (r := (R : Nat)) (c := (R : Nat)) hpw6.1 hpw6.2)
        clear hpw6 how6
        obtain ⟨qa0, qa1, qa2⟩ := Ma.out.cells
        obtain ⟨qb0, qb1, qb2⟩ := Mb.out.cells
        obtain ⟨qx0, qx1, qx2⟩ := Mx.out.cells
        obtain ⟨qy0, qy1, qy2⟩ := My.out.cells
        obtain ⟨qp0, qp1, qp2⟩ := Mp.out.cells
        go_wp2_with fail
        generalize w6.alloc (.cells #[.int .i64 (R : Nat), .int .i64 (R : Nat), .slice Ap (xp).length kp] 24) = w6a at *
        generalize w6.heap.size = gp at *
        refine (P4.out _ _ _ _ _ Mx.out.cap My.out.cap Mx.out.rd My.out.rd).mono ?_; rintro e w7 ⟨Aq, kq, rfl, how7, hBw7⟩
        have hpw7 := mret_parts how7
        clear qa0 qa1 qa2 qb0 qb1 qb2 qx0 qx1 qx2 qy0 qy1 qy2 qp0 qp1 qp2
        replace Ma := Lib.hid (Ma.out.below hBw7)
        replace Mb := Lib.hid (Mb.out.below hBw7)
        replace Mx := Lib.hid (Mx.out.below hBw7)
        replace My := Lib.hid (My.out.below hBw7)
        replace Mp := Lib.hid (Mp.out.below hBw7)
        replace HB := Lib.hid (below_then HB.out hBw7)
        clear hBw7
        replace Ma := Lib.hid (Ma.out.alloc (.cells #[.int .i64 (R : Nat), .int .i64 (R : Nat), .slice Aq (xq).length kq] 24))
        replace Mb := Lib.hid (Mb.out.alloc (.cells #[.int .i64 (R : Nat), .int .i64 (R : Nat), .slice Aq (xq).length kq] 24))
        replace Mx := Lib.hid (Mx.out.alloc (.cells #[.int .i64 (R : Nat), .int .i64 (R : Nat), .slice Aq (xq).length kq] 24))
        replace My := Lib.hid (My.out.alloc (.cells #[.int .i64 (R : Nat), .int .i64 (R : Nat), .slice Aq (xq).length kq] 24))
        replace Mp := Lib.hid (Mp.out.alloc (.cells #[.int .i64 (R : Nat), .int .i64 (R : Nat), .slice Aq (xq).length kq] 24))
        replace HB := Lib.hid (below_alloc HB.out (.cells #[.int .i64 (R : Nat), .int .i64 (R : Nat), .slice Aq (xq).length kq] 24))
        have Mq := Lib.hid (MB.new (r := (R : Nat)) (c := (R : Nat)) hpw7.1 hpw7.2)
        clear hpw7 how7
        obtain ⟨qa0, qa1, qa2⟩ := Ma.out.cells
        obtain ⟨qb0, qb1, qb2⟩ := Mb.out.cells
        obtain ⟨qx0, qx1, qx2⟩ := Mx.out.cells
        obtain ⟨qy0, qy1, qy2⟩ := My.out.cells
        obtain ⟨qp0, qp1, qp2⟩ := Mp.out.cells
        obtain ⟨qq0, qq1, qq2⟩ := Mq.out.cells
        go_wp2_with fail
        generalize w7.alloc (.cells #[.int .i64 (R : Nat), .int .i64 (R : Nat), .slice Aq (xq).length kq] 24) = w7a at *
        generalize w7.heap.size = gq at *
        refine (P5b.out _ _ _ Mp.out.rd).mono ?_; rintro e w8 ⟨At, kt, rfl, how8, hBw8⟩
        have hpw8 := mret_parts how8
        clear qa0 qa1 qa2 qb0 qb1 qb2 qx0 qx1 qx2 qy0 qy1 qy2 qp0 qp1 qp2 qq0 qq1 qq2
        replace Ma := Lib.hid (Ma.out.below hBw8)
        replace Mb := Lib.hid (Mb.out.below hBw8)
        replace Mx := Lib.hid (Mx.out.below hBw8)
        replace My := Lib.hid (My.out.below hBw8)
        replace Mp := Lib.hid (Mp.out.below hBw8)
        replace Mq := Lib.hid (Mq.out.below hBw8)
        replace HB := Lib.hid (below_then HB.out hBw8)
        clear hBw8
        replace Ma := Lib.hid (Ma.out.alloc (.cells #[.int .i64 (R : Nat), .int .i64 (R : Nat), .slice At (xq).length kt] 24))
        replace Mb := Lib.hid (Mb.out.alloc (.cells #[.int .i64 (R : Nat), .int .i64 (R : Nat), .slice At (xq).length kt] 24))
        replace Mx := Lib.hid (Mx.out.alloc (.cells #[.int .i64 (R : Nat), .int .i64 (R : Nat), .slice At (xq).length kt] 24))
        replace My := Lib.hid (My.out.alloc (.cells #[.int .i64 (R : Nat), .int .i64 (R : Nat), .slice At (xq).length kt] 24))
        replace Mp := Lib.hid (Mp.out.alloc (.cells #[.int .i64 (R : Nat), .int .i64 (R : Nat), .slice At (xq).length kt] 24))
        replace Mq := Lib.hid (Mq.out.alloc (.cells #[.int .i64 (R : Nat), .int .i64 (R : Nat), .slice At (xq).length kt] 24))
        replace HB := Lib.hid (below_alloc HB.out (.cells #[.int .i64 (R : Nat), .int .i64 (R : Nat), .slice At (xq).length kt] 24))
        have Mt := Lib.hid (MB.new (r := (R : Nat)) (c := (R : Nat)) hpw8.1 hpw8.2)
        clear hpw8 how8
        obtain ⟨qa0, qa1, qa2⟩ := Ma.out.cells
        obtain ⟨qb0, qb1, qb2⟩ := Mb.out.cells
        obtain ⟨qx0, qx1, qx2⟩ := Mx.out.cells
        obtain ⟨qy0, qy1, qy2⟩ := My.out.cells
        obtain ⟨qp0, qp1, qp2⟩ := Mp.out.cells
        obtain ⟨qq0, qq1, qq2⟩ := Mq.out.cells
        obtain ⟨qt0, qt1, qt2⟩ := Mt.out.cells
        go_wp2_with fail
        generalize w8.alloc (.cells #[.int .i64 (R : Nat), .int .i64 (R : Nat), .slice At (xq).length kt] 24) = w8a at *
        generalize w8.heap.size = gt at *
        refine (same_box Mt.out Mq.out).mono ?_; rintro e w9 ⟨rfl, hBw9⟩
        clear qa0 qa1 qa2 qb0 qb1 qb2 qx0 qx1 qx2 qy0 qy1 qy2 qp0 qp1 qp2 qq0 qq1 qq2 qt0 qt1 qt2
        replace Ma := Lib.hid (Ma.out.below hBw9)
        replace Mb := Lib.hid (Mb.out.below hBw9)
        replace Mx := Lib.hid (Mx.out.below hBw9)
        replace My := Lib.hid (My.out.below hBw9)
        replace Mp := Lib.hid (Mp.out.below hBw9)
        replace Mq := Lib.hid (Mq.out.below hBw9)
        replace Mt := Lib.hid (Mt.out.below hBw9)
        replace HB := Lib.hid (below_then HB.out hBw9)
        clear hBw9
        obtain ⟨qa0, qa1, qa2⟩ := Ma.out.cells
        obtain ⟨qb0, qb1, qb2⟩ := Mb.out.cells
        obtain ⟨qx0, qx1, qx2⟩ := Mx.out.cells
        obtain ⟨qy0, qy1, qy2⟩ := My.out.cells
        obtain ⟨qp0, qp1, qp2⟩ := Mp.out.cells
        obtain ⟨qq0, qq1, qq2⟩ := Mq.out.cells
        obtain ⟨qt0, qt1, qt2⟩ := Mt.out.cells
        go_wp2_with fail
        go_ret
        exact ⟨rfl, HB.out⟩
end Go.Proofs.Ytbokbndphpdgoaa
