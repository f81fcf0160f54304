/-
  The law MatBrackets.
-/
import Derived.Test.YtbokbndphpdgoaaMatbr
import Derived.Test.YtbokbndphpdgoaaMatmul
namespace Go.Proofs.Ytbokbndphpdgoaa
set_option linter.unusedSimpArgs false
set_option linter.unusedVariables false
open Go.RowKit

/-- three boxes in a row, of matrices -/
theorem boxes3 {w : World} {r c r' c' r2 c2 : Int} {A A' A2 : Option Addr} {n k n' k' n2 k2 : Nat} {xa xb xc : List UInt8} (h : Reads w w.heap.size 1 A n (xa.map B8)) (hk : n ≤ k) (h' : Reads w w.heap.size 1 A' n' (xb.map B8)) (hk' : n' ≤ k') (h2 : Reads w w.heap.size 1 A2 n2 (xc.map B8)) (hk2 : n2 ≤ k2) :
    MB (((w.alloc (.cells #[.int .i64 r, .int .i64 c, .slice A n k] 24)).alloc (.cells #[.int .i64 r', .int .i64 c', .slice A' n' k'] 24)).alloc (.cells #[.int .i64 r2, .int .i64 c2, .slice A2 n2 k2] 24)) w.heap.size r c A n k xa ∧ MB (((w.alloc (.cells #[.int .i64 r, .int .i64 c, .slice A n k] 24)).alloc (.cells #[.int .i64 r', .int .i64 c', .slice A' n' k'] 24)).alloc (.cells #[.int .i64 r2, .int .i64 c2, .slice A2 n2 k2] 24)) (w.heap.size + 1) r' c' A' n' k' xb ∧
    MB (((w.alloc (.cells #[.int .i64 r, .int .i64 c, .slice A n k] 24)).alloc (.cells #[.int .i64 r', .int .i64 c', .slice A' n' k'] 24)).alloc (.cells #[.int .i64 r2, .int .i64 c2, .slice A2 n2 k2] 24)) (w.heap.size + 1 + 1) r2 c2 A2 n2 k2 xc ∧
    Below w.heap.size w (((w.alloc (.cells #[.int .i64 r, .int .i64 c, .slice A n k] 24)).alloc (.cells #[.int .i64 r', .int .i64 c', .slice A' n' k'] 24)).alloc (.cells #[.int .i64 r2, .int .i64 c2, .slice A2 n2 k2] 24)) := by
  obtain ⟨m1, m2, hB⟩ := boxes2 (r := r) (c := c) (r' := r') (c' := c') h hk h' hk'
  have m3 := MB.new (r := r2) (c := c2) ((h2.below hB).more hB.size) hk2
  rw [show ((w.alloc (.cells #[.int .i64 r, .int .i64 c, .slice A n k] 24)).alloc (.cells #[.int .i64 r', .int .i64 c', .slice A' n' k'] 24)).heap.size = w.heap.size + 1 + 1 by simp] at m3
  exact ⟨m1.alloc _, m2.alloc _, m3, below_alloc hB _⟩

set_option maxRecDepth 100000 in
set_option maxHeartbeats 8000000 in
theorem matBrackets_walk (r c : Int) (A : Option Addr) (n k : Nat) (xa : List UInt8) (r' c' : Int) (A' : Option Addr) (n' k' : Nat) (xb : List UInt8) (r2 c2 : Int) (A2 : Option Addr) (n2 k2 : Nat) (xc : List UInt8) (w : World) (_w1 : (Lit.int .i64 r).wf = true ∧ (Lit.int .i64 c).wf = true) (hnk : n ≤ k) (_m : k ≤ maxLen) (h : Reads w w.heap.size 1 A n (xa.map B8))
    (_w2 : (Lit.int .i64 r').wf = true ∧ (Lit.int .i64 c').wf = true) (hnk' : n' ≤ k') (_m' : k' ≤ maxLen) (h' : Reads w w.heap.size 1 A' n' (xb.map B8))
    (_w3 : (Lit.int .i64 r2).wf = true ∧ (Lit.int .i64 c2).wf = true) (hnk2 : n2 ≤ k2) (_m2 : k2 ≤ maxLen) (h2 : Reads w w.heap.size 1 A2 n2 (xc.map B8)) :
    Calls Try.prog 8 #[.agg #[.int .i64 r, .int .i64 c, .slice A n k], .agg #[.int .i64 r', .int .i64 c', .slice A' n' k'], .agg #[.int .i64 r2, .int .i64 c2, .slice A2 n2 k2]] w fun e w' => e = .returned (.bool true) ∧ Below w.heap.size w w' := by
  have hz := (zero_of_info info_m).1
  have G := fun r c A n k W => Lib.hid (great_any r c A n k W)
  have Y := fun r c A n k W => Lib.hid (refMay_any r c A n k W)
  have L1 := Lib.hid h.len
  have L2 := Lib.hid h'.len
  have L3 := Lib.hid h2.len
  unfold mC at G Y
  replace G := Lib.hid G; replace Y := Lib.hid Y
  obtain ⟨Ma, Mb, Mc, hB⟩ := boxes3 (r := r) (c := c) (r' := r') (c' := c') (r2 := r2) (c2 := c2) h hnk h' hnk' h2 hnk2
  replace Ma := Lib.hid Ma; replace Mb := Lib.hid Mb; replace Mc := Lib.hid Mc
  have HB := Lib.hid hB
  have N1 := Lib.hid hnk; have N2 := Lib.hid hnk'; have N3 := Lib.hid hnk2
  clear hB h h' h2 hnk hnk' hnk2 _w1 _w2 _w3 _m _m' _m2
  go_enter Try.func8, Try.ntmps8
  go_wp2_with fail
  generalize ((w.alloc (.cells #[.int .i64 r, .int .i64 c, .slice A n k] 24)).alloc (.cells #[.int .i64 r', .int .i64 c', .slice A' n' k'] 24)).alloc (.cells #[.int .i64 r2, .int .i64 c2, .slice A2 n2 k2] 24) = W0 at *
  generalize w.heap.size + 1 + 1 = gc at *
  generalize w.heap.size + 1 = gb at *
  refine (alive_any _).mono ?_; rintro e w1 ⟨rfl, hBw1⟩
  replace Ma := Lib.hid (Ma.out.below hBw1)
  replace Mb := Lib.hid (Mb.out.below hBw1)
  replace Mc := Lib.hid (Mc.out.below hBw1)
  replace HB := Lib.hid (below_then HB.out hBw1)
  clear hBw1
  obtain ⟨qa0, qa1, qa2⟩ := Ma.out.cells
  obtain ⟨qb0, qb1, qb2⟩ := Mb.out.cells
  obtain ⟨qc0, qc1, qc2⟩ := Mc.out.cells
  go_wp2_with fail
  refine ((G.out r c A n k _).out).mono ?_; rintro e w2 ⟨rfl, hBw2⟩
  clear qa0 qa1 qa2 qb0 qb1 qb2 qc0 qc1 qc2
  replace Ma := Lib.hid (Ma.out.below hBw2)
  replace Mb := Lib.hid (Mb.out.below hBw2)
  replace Mc := Lib.hid (Mc.out.below hBw2)
  replace HB := Lib.hid (below_then HB.out hBw2)
  clear hBw2
  obtain ⟨qa0, qa1, qa2⟩ := Ma.out.cells
  obtain ⟨qb0, qb1, qb2⟩ := Mb.out.cells
  obtain ⟨qc0, qc1, qc2⟩ := Mc.out.cells
  cases hg : greatV r c n
  case true =>
    go_wp2_with fail
    go_ret
    exact ⟨rfl, HB.out⟩
  case false =>
    clear hg
    go_wp2_with fail
    refine ((G.out r' c' A' n' k' _).out).mono ?_; rintro e w3 ⟨rfl, hBw3⟩
    clear qa0 qa1 qa2 qb0 qb1 qb2 qc0 qc1 qc2
    replace Ma := Lib.hid (Ma.out.below hBw3)
    replace Mb := Lib.hid (Mb.out.below hBw3)
    replace Mc := Lib.hid (Mc.out.below hBw3)
    replace HB := Lib.hid (below_then HB.out hBw3)
    clear hBw3
    obtain ⟨qa0, qa1, qa2⟩ := Ma.out.cells
    obtain ⟨qb0, qb1, qb2⟩ := Mb.out.cells
    obtain ⟨qc0, qc1, qc2⟩ := Mc.out.cells
    cases hg : greatV r' c' n'
    case true =>
      go_wp2_with fail
      go_ret
      exact ⟨rfl, HB.out⟩
    case false =>
      clear hg
      go_wp2_with fail
      refine ((G.out r2 c2 A2 n2 k2 _).out).mono ?_; rintro e w4 ⟨rfl, hBw4⟩
      clear qa0 qa1 qa2 qb0 qb1 qb2 qc0 qc1 qc2
      replace Ma := Lib.hid (Ma.out.below hBw4)
      replace Mb := Lib.hid (Mb.out.below hBw4)
      replace Mc := Lib.hid (Mc.out.below hBw4)
      replace HB := Lib.hid (below_then HB.out hBw4)
      clear hBw4
      obtain ⟨qa0, qa1, qa2⟩ := Ma.out.cells
      obtain ⟨qb0, qb1, qb2⟩ := Mb.out.cells
      obtain ⟨qc0, qc1, qc2⟩ := Mc.out.cells
      cases hg : greatV r2 c2 n2
      case true =>
        go_wp2_with fail
        go_ret
        exact ⟨rfl, HB.out⟩
      case false =>
        clear hg
        go_wp2_with fail
        refine ((Y.out r c A n k _).out).mono ?_; rintro e w5 ⟨rfl, hBw5⟩
        clear qa0 qa1 qa2 qb0 qb1 qb2 qc0 qc1 qc2
        replace Ma := Lib.hid (Ma.out.below hBw5)
        replace Mb := Lib.hid (Mb.out.below hBw5)
        replace Mc := Lib.hid (Mc.out.below hBw5)
        replace HB := Lib.hid (below_then HB.out hBw5)
        clear hBw5
        obtain ⟨qa0, qa1, qa2⟩ := Ma.out.cells
        obtain ⟨qb0, qb1, qb2⟩ := Mb.out.cells
        obtain ⟨qc0, qc1, qc2⟩ := Mc.out.cells
        cases hm0 : Matp.may r c n
        case false =>
          go_wp2_with fail
          go_ret
          exact ⟨rfl, HB.out⟩
        case true =>
          replace hm0 := Lib.hid hm0
          go_wp2_with fail
          refine ((Y.out r' c' A' n' k' _).out).mono ?_; rintro e w6 ⟨rfl, hBw6⟩
          clear qa0 qa1 qa2 qb0 qb1 qb2 qc0 qc1 qc2
          replace Ma := Lib.hid (Ma.out.below hBw6)
          replace Mb := Lib.hid (Mb.out.below hBw6)
          replace Mc := Lib.hid (Mc.out.below hBw6)
          replace HB := Lib.hid (below_then HB.out hBw6)
          clear hBw6
          obtain ⟨qa0, qa1, qa2⟩ := Ma.out.cells
          obtain ⟨qb0, qb1, qb2⟩ := Mb.out.cells
          obtain ⟨qc0, qc1, qc2⟩ := Mc.out.cells
          cases hm1 : Matp.may r' c' n'
          case false =>
            go_wp2_with fail
            go_ret
            exact ⟨rfl, HB.out⟩
          case true =>
            replace hm1 := Lib.hid hm1
            go_wp2_with fail
            refine ((Y.out r2 c2 A2 n2 k2 _).out).mono ?_; rintro e w7 ⟨rfl, hBw7⟩
            clear qa0 qa1 qa2 qb0 qb1 qb2 qc0 qc1 qc2
            replace Ma := Lib.hid (Ma.out.below hBw7)
            replace Mb := Lib.hid (Mb.out.below hBw7)
            replace Mc := Lib.hid (Mc.out.below hBw7)
            replace HB := Lib.hid (below_then HB.out hBw7)
            clear hBw7
            obtain ⟨qa0, qa1, qa2⟩ := Ma.out.cells
            obtain ⟨qb0, qb1, qb2⟩ := Mb.out.cells
            obtain ⟨qc0, qc1, qc2⟩ := Mc.out.cells
            cases hm2 : Matp.may r2 c2 n2
            case false =>
              go_wp2_with fail
              go_ret
              exact ⟨rfl, HB.out⟩
            case true =>
              replace hm2 := Lib.hid hm2
              obtain ⟨R, K, rfl, rfl, hR, hK, hn⟩ := may_nat hm0.out
              obtain ⟨K', C, rfl, rfl, hK', hC, hn'⟩ := may_nat hm1.out
              obtain ⟨C', D, rfl, rfl, hC', hD, hn2⟩ := may_nat hm2.out
              clear hm0 hm1 hm2
              replace hn := Lib.hid hn; replace hn' := Lib.hid hn'; replace hn2 := Lib.hid hn2
              by_cases hq : K = K'
              case neg =>
                have hne : ((K : Int) == (K' : Int)) = false := by rw [beq_eq_false_iff_ne]; omega
                have hne2 : ((K : Int) != (K' : Int)) = true := by unfold bne; rw [hne]; rfl
                clear hq
                go_wp2_with fail
                go_ret
                exact ⟨rfl, HB.out⟩
              case pos =>
                subst hq
                by_cases hq : C = C'
                case neg =>
                  have hne : ((C : Int) == (C' : Int)) = false := by rw [beq_eq_false_iff_ne]; omega
                  have hne2 : ((C : Int) != (C' : Int)) = true := by unfold bne; rw [hne]; rfl
                  clear hq
                  go_wp2_with fail
                  go_ret
                  exact ⟨rfl, HB.out⟩
                case pos =>
                  subst hq
                  by_cases hq20 : (R : Int) ≤ 20
                  case neg =>
                    have h20 : (20 : Int) < R := by omega
                    go_wp2_with fail
                    go_ret
                    exact ⟨rfl, HB.out⟩
                  case pos =>
                    by_cases hq21 : (D : Int) ≤ 20
                    case neg =>
                      have h20 : (20 : Int) < D := by omega
                      go_wp2_with fail
                      go_ret
                      exact ⟨rfl, HB.out⟩
                    case pos =>
                      obtain ⟨xab, hxab⟩ : ∃ x, x = mulC xa xb R K C := ⟨_, rfl⟩
                      obtain ⟨xbc, hxbc⟩ : ∃ x, x = mulC xb xc K C D := ⟨_, rfl⟩
                      obtain ⟨y, hy⟩ : ∃ x, x = mulC xab xc R C D := ⟨_, rfl⟩
                      have hy2 : mulC xa xbc R K D = y := by rw [hy, hxab, hxbc, mulC_assoc]
                      obtain ⟨xi, hxi⟩ : ∃ x, x = cellsTo R oneC (R * R) := ⟨_, rfl⟩
                      have hv : mulC xi xa R R K = xa := by rw [hxi]; exact mulC_id xa R K (by rw [L1.out]; exact hn.out)
                      have lab : xab.length = R * C := by rw [hxab]; exact mulC_len _ _ _ _ _
                      have lbc : xbc.length = K * D := by rw [hxbc]; exact mulC_len _ _ _ _ _
                      have lxi : xi.length = R * R := by rw [hxi]; exact cellsTo_len _ _ _
                      have P1 : Hid (∀ W, Reads W W.heap.size 1 A n (xa.map B8) → Reads W W.heap.size 1 A' n' (xb.map B8) → Calls Try.prog 27 #[.agg (mC R K (.slice A n k)), .agg (mC K C (.slice A' n' k'))] W (MRet W R C xab 0)) := fun W h1 h2 => by rw [hxab]; exact mul_in R K C A A' n k n' k' xa xb W hR hK hC hn.out N1.out hn'.out N2.out h1 h2
                      have P2 : Hid (∀ (Ax : Option Addr) (kx : Nat) W, xab.length ≤ kx → Reads W W.heap.size 1 Ax xab.length (xab.map B8) → Reads W W.heap.size 1 A2 n2 (xc.map B8) → Calls Try.prog 27 #[.agg (mC R C (.slice Ax xab.length kx)), .agg (mC C D (.slice A2 n2 k2))] W (MRet W R D y 0)) := fun Ax kx W hk h1 h2 => by rw [hy]; exact mul_in R C D Ax A2 xab.length kx n2 k2 xab xc W hR hC hD lab hk hn2.out N3.out h1 h2
                      have P3 : Hid (∀ W, Reads W W.heap.size 1 A' n' (xb.map B8) → Reads W W.heap.size 1 A2 n2 (xc.map B8) → Calls Try.prog 27 #[.agg (mC K C (.slice A' n' k')), .agg (mC C D (.slice A2 n2 k2))] W (MRet W K D xbc 0)) := fun W h1 h2 => by rw [hxbc]; exact mul_in K C D A' A2 n' k' n2 k2 xb xc W hK hC hD hn'.out N2.out hn2.out N3.out h1 h2
                      have P4 : Hid (∀ (Ax : Option Addr) (kx : Nat) W, xbc.length ≤ kx → Reads W W.heap.size 1 A n (xa.map B8) → Reads W W.heap.size 1 Ax xbc.length (xbc.map B8) → Calls Try.prog 27 #[.agg (mC R K (.slice A n k)), .agg (mC K D (.slice Ax xbc.length kx))] W (MRet W R D y 0)) := fun Ax kx W hk h1 h2 => by rw [← hy2]; exact mul_in R K D A Ax n k xbc.length kx xa xbc W hR hK hD hn.out N1.out lbc hk h1 h2
                      have P5 : Hid (∀ W, Calls Try.prog 17 #[.int .i64 (R : Nat)] W (MRet W R R xi 0)) := fun W => by rw [hxi]; exact identity_in R W hR
                      have P6 : Hid (∀ (Ax : Option Addr) (kx : Nat) W, xi.length ≤ kx → Reads W W.heap.size 1 Ax xi.length (xi.map B8) → Reads W W.heap.size 1 A n (xa.map B8) → Calls Try.prog 27 #[.agg (mC R R (.slice Ax xi.length kx)), .agg (mC R K (.slice A n k))] W (MRet W R K xa 0)) := fun Ax kx W hk h1 h2 => by have h3 := mul_in R R K Ax A xi.length kx n k xi xa W hR hR hK lxi hk hn.out N1.out h1 h2; rw [hv] at h3; exact h3
                      unfold MRet at P1 P2 P3 P4 P5 P6
                      unfold mC at P1 P2 P3 P4 P5 P6
                      clear hxab hxbc hy hy2 hxi hv lab lbc lxi hn hn' hn2 N1 N2 N3 L1 L2 L3
                      go_wp2_with fail
                      refine (P1.out _ Ma.out.rd Mb.out.rd).mono ?_; rintro e w8 ⟨Ax, kx, rfl, how8, hBw8⟩
                      have hpw8 := mret_parts how8
                      clear qa0 qa1 qa2 qb0 qb1 qb2 qc0 qc1 qc2
                      replace Ma := Lib.hid (Ma.out.below hBw8)
                      replace Mb := Lib.hid (Mb.out.below hBw8)
                      replace Mc := Lib.hid (Mc.out.below hBw8)
                      replace HB := Lib.hid (below_then HB.out hBw8)
                      clear hBw8
                      replace Ma := Lib.hid (Ma.out.alloc (.cells #[.int .i64 (R : Nat), .int .i64 (C : Nat), .slice Ax (xab).length kx] 24))
                      replace Mb := Lib.hid (Mb.out.alloc (.cells #[.int .i64 (R : Nat), .int .i64 (C : Nat), .slice Ax (xab).length kx] 24))
                      replace Mc := Lib.hid (Mc.out.alloc (.cells #[.int .i64 (R : Nat), .int .i64 (C : Nat), .slice Ax (xab).length kx] 24))
                      replace HB := Lib.hid (below_alloc HB.out (.cells #[.int .i64 (R : Nat), .int .i64 (C : Nat), .slice Ax (xab).length kx] 24))
                      have Mx := Lib.hid (MB.new (r := (R : Nat)) (c := (C : Nat)) hpw8.1 hpw8.2)
                      clear hpw8 how8
                      obtain ⟨qa0, qa1, qa2⟩ := Ma.out.cells
                      obtain ⟨qb0, qb1, qb2⟩ := Mb.out.cells
                      obtain ⟨qc0, qc1, qc2⟩ := Mc.out.cells
                      obtain ⟨qx0, qx1, qx2⟩ := Mx.out.cells
                      go_wp2_with fail
                      generalize w8.alloc (.cells #[.int .i64 (R : Nat), .int .i64 (C : Nat), .slice Ax (xab).length kx] 24) = w8a at *
                      generalize w8.heap.size = gx at *
                      refine ((G.out R C Ax xab.length kx _).out).mono ?_; rintro e w9 ⟨rfl, hBw9⟩
                      clear qa0 qa1 qa2 qb0 qb1 qb2 qc0 qc1 qc2 qx0 qx1 qx2
                      replace Ma := Lib.hid (Ma.out.below hBw9)
                      replace Mb := Lib.hid (Mb.out.below hBw9)
                      replace Mc := Lib.hid (Mc.out.below hBw9)
                      replace Mx := Lib.hid (Mx.out.below hBw9)
                      replace HB := Lib.hid (below_then HB.out hBw9)
                      clear hBw9
                      obtain ⟨qa0, qa1, qa2⟩ := Ma.out.cells
                      obtain ⟨qb0, qb1, qb2⟩ := Mb.out.cells
                      obtain ⟨qc0, qc1, qc2⟩ := Mc.out.cells
                      obtain ⟨qx0, qx1, qx2⟩ := Mx.out.cells
                      cases hg : greatV R C xab.length
                      case true =>
                        go_wp2_with fail
                        go_ret
                        exact ⟨rfl, HB.out⟩
                      case false =>
                        clear hg
                        go_wp2_with fail
                        refine (P2.out _ _ _ Mx.out.cap Mx.out.rd Mc.out.rd).mono ?_; rintro e w10 ⟨Ay, ky, rfl, how10, hBw10⟩
                        have hpw10 := mret_parts how10
                        clear qa0 qa1 qa2 qb0 qb1 qb2 qc0 qc1 qc2 qx0 qx1 qx2
                        replace Ma := Lib.hid (Ma.out.below hBw10)
                        replace Mb := Lib.hid (Mb.out.below hBw10)
                        replace Mc := Lib.hid (Mc.out.below hBw10)
                        replace Mx := Lib.hid (Mx.out.below hBw10)
                        replace HB := Lib.hid (below_then HB.out hBw10)
                        clear hBw10
                        replace Ma := Lib.hid (Ma.out.alloc (.cells #[.int .i64 (R : Nat), .int .i64 (D : Nat), .slice Ay (y).length ky] 24))
                        replace Mb := Lib.hid (Mb.out.alloc (.cells #[.int .i64 (R : Nat), .int .i64 (D : Nat), .slice Ay (y).length ky] 24))
                        replace Mc := Lib.hid (Mc.out.alloc (.cells #[.int .i64 (R : Nat), .int .i64 (D : Nat), .slice Ay (y).length ky] 24))
                        replace Mx := Lib.hid (Mx.out.alloc (.cells #[.int .i64 (R : Nat), .int .i64 (D : Nat), .slice Ay (y).length ky] 24))
                        replace HB := Lib.hid (below_alloc HB.out (.cells #[.int .i64 (R : Nat), .int .i64 (D : Nat), .slice Ay (y).length ky] 24))
                        have My := Lib.hid (MB.new (r := (R : Nat)) (c := (D : Nat)) hpw10.1 hpw10.2)
                        clear hpw10 how10
                        obtain ⟨qa0, qa1, qa2⟩ := Ma.out.cells
                        obtain ⟨qb0, qb1, qb2⟩ := Mb.out.cells
                        obtain ⟨qc0, qc1, qc2⟩ := Mc.out.cells
                        obtain ⟨qx0, qx1, qx2⟩ := Mx.out.cells
                        obtain ⟨qy0, qy1, qy2⟩ := My.out.cells
                        go_wp2_with fail
                        generalize w10.alloc (.cells #[.int .i64 (R : Nat), .int .i64 (D : Nat), .slice Ay (y).length ky] 24) = w10a at *
                        generalize w10.heap.size = gy at *
                        refine (P3.out _ Mb.out.rd Mc.out.rd).mono ?_; rintro e w11 ⟨Az, kz, rfl, how11, hBw11⟩
                        have hpw11 := mret_parts how11
                        clear qa0 qa1 qa2 qb0 qb1 qb2 qc0 qc1 qc2 qx0 qx1 qx2 qy0 qy1 qy2
                        replace Ma := Lib.hid (Ma.out.below hBw11)
                        replace Mb := Lib.hid (Mb.out.below hBw11)
                        replace Mc := Lib.hid (Mc.out.below hBw11)
                        replace Mx := Lib.hid (Mx.out.below hBw11)
                        replace My := Lib.hid (My.out.below hBw11)
                        replace HB := Lib.hid (below_then HB.out hBw11)
                        clear hBw11
                        replace Ma := Lib.hid (Ma.out.alloc (.cells #[.int .i64 (K : Nat), .int .i64 (D : Nat), .slice Az (xbc).length kz] 24))
                        replace Mb := Lib.hid (Mb.out.alloc (.cells #[.int .i64 (K : Nat), .int .i64 (D : Nat), .slice Az (xbc).length kz] 24))
                        replace Mc := Lib.hid (Mc.out.alloc (.cells #[.int .i64 (K : Nat), .int .i64 (D : Nat), .slice Az (xbc).length kz] 24))
                        replace Mx := Lib.hid (Mx.out.alloc (.cells #[.int .i64 (K : Nat), .int .i64 (D : Nat), .slice Az (xbc).length kz] 24))
                        replace My := Lib.hid (My.out.alloc (.cells #[.int .i64 (K : Nat), .int .i64 (D : Nat), .slice Az (xbc).length kz] 24))
                        replace HB := Lib.hid (below_alloc HB.out (.cells #[.int .i64 (K : Nat), .int .i64 (D : Nat), .slice Az (xbc).length kz] 24))
                        have Mz := Lib.hid (MB.new (r := (K : Nat)) (c := (D : Nat)) hpw11.1 hpw11.2)
                        clear hpw11 how11
                        obtain ⟨qa0, qa1, qa2⟩ := Ma.out.cells
                        obtain ⟨qb0, qb1, qb2⟩ := Mb.out.cells
                        obtain ⟨qc0, qc1, qc2⟩ := Mc.out.cells
                        obtain ⟨qx0, qx1, qx2⟩ := Mx.out.cells
                        obtain ⟨qy0, qy1, qy2⟩ := My.out.cells
                        obtain ⟨qz0, qz1, qz2⟩ := Mz.out.cells
                        go_wp2_with fail
                        generalize w11.alloc (.cells #[.int .i64 (K : Nat), .int .i64 (D : Nat), .slice Az (xbc).length kz] 24) = w11a at *
                        generalize w11.heap.size = gz at *
                        refine ((G.out K D Az xbc.length kz _).out).mono ?_; rintro e w12 ⟨rfl, hBw12⟩
                        clear qa0 qa1 qa2 qb0 qb1 qb2 qc0 qc1 qc2 qx0 qx1 qx2 qy0 qy1 qy2 qz0 qz1 qz2
                        replace Ma := Lib.hid (Ma.out.below hBw12)
                        replace Mb := Lib.hid (Mb.out.below hBw12)
                        replace Mc := Lib.hid (Mc.out.below hBw12)
                        replace Mx := Lib.hid (Mx.out.below hBw12)
                        replace My := Lib.hid (My.out.below hBw12)
                        replace Mz := Lib.hid (Mz.out.below hBw12)
                        replace HB := Lib.hid (below_then HB.out hBw12)
                        clear hBw12
                        obtain ⟨qa0, qa1, qa2⟩ := Ma.out.cells
                        obtain ⟨qb0, qb1, qb2⟩ := Mb.out.cells
                        obtain ⟨qc0, qc1, qc2⟩ := Mc.out.cells
                        obtain ⟨qx0, qx1, qx2⟩ := Mx.out.cells
                        obtain ⟨qy0, qy1, qy2⟩ := My.out.cells
                        obtain ⟨qz0, qz1, qz2⟩ := Mz.out.cells
                        cases hg : greatV K D xbc.length
                        case true =>
                          go_wp2_with fail
                          go_ret
                          exact ⟨rfl, HB.out⟩
                        case false =>
                          clear hg
                          go_wp2_with fail
                          refine (P4.out _ _ _ Mz.out.cap Ma.out.rd Mz.out.rd).mono ?_; rintro e w13 ⟨Av, kv, rfl, how13, hBw13⟩
                          have hpw13 := mret_parts how13
                          clear qa0 qa1 qa2 qb0 qb1 qb2 qc0 qc1 qc2 qx0 qx1 qx2 qy0 qy1 qy2 qz0 qz1 qz2
                          replace Ma := Lib.hid (Ma.out.below hBw13)
                          replace Mb := Lib.hid (Mb.out.below hBw13)
                          replace Mc := Lib.hid (Mc.out.below hBw13)
                          replace Mx := Lib.hid (Mx.out.below hBw13)
                          replace My := Lib.hid (My.out.below hBw13)
                          replace Mz := Lib.hid (Mz.out.below hBw13)
                          replace HB := Lib.hid (below_then HB.out hBw13)
                          clear hBw13
                          replace Ma := Lib.hid (Ma.out.alloc (.cells #[.int .i64 (R : Nat), .int .i64 (D : Nat), .slice Av (y).length kv] 24))
                          replace Mb := Lib.hid (Mb.out.alloc (.cells #[.int .i64 (R : Nat), .int .i64 (D : Nat), .slice Av (y).length kv] 24))
                          replace Mc := Lib.hid (Mc.out.alloc (.cells #[.int .i64 (R : Nat), .int .i64 (D : Nat), .slice Av (y).length kv] 24))
                          replace Mx := Lib.hid (Mx.out.alloc (.cells #[.int .i64 (R : Nat), .int .i64 (D : Nat), .slice Av (y).length kv] 24))
                          replace My := Lib.hid (My.out.alloc (.cells #[.int .i64 (R : Nat), .int .i64 (D : Nat), .slice Av (y).length kv] 24))
                          replace Mz := Lib.hid (Mz.out.alloc (.cells #[.int .i64 (R : Nat), .int .i64 (D : Nat), .slice Av (y).length kv] 24))
                          replace HB := Lib.hid (below_alloc HB.out (.cells #[.int .i64 (R : Nat), .int .i64 (D : Nat), .slice Av (y).length kv] 24))
                          have Mv := Lib.hid (MB.new (r := (R : Nat)) (c := (D : Nat)) hpw13.1 hpw13.2)
                          clear hpw13 how13
                          obtain ⟨qa0, qa1, qa2⟩ := Ma.out.cells
                          obtain ⟨qb0, qb1, qb2⟩ := Mb.out.cells
                          obtain ⟨qc0, qc1, qc2⟩ := Mc.out.cells
                          obtain ⟨qx0, qx1, qx2⟩ := Mx.out.cells
                          obtain ⟨qy0, qy1, qy2⟩ := My.out.cells
                          obtain ⟨qz0, qz1, qz2⟩ := Mz.out.cells
                          obtain ⟨qv0, qv1, qv2⟩ := Mv.out.cells
                          go_wp2_with fail
                          generalize w13.alloc (.cells #[.int .i64 (R : Nat), .int .i64 (D : Nat), .slice Av (y).length kv] 24) = w13a at *
                          generalize w13.heap.size = gv at *
                          refine (P5.out _).mono ?_; rintro e w14 ⟨Ai, ki, rfl, how14, hBw14⟩
                          have hpw14 := mret_parts how14
                          clear qa0 qa1 qa2 qb0 qb1 qb2 qc0 qc1 qc2 qx0 qx1 qx2 qy0 qy1 qy2 qz0 qz1 qz2 qv0 qv1 qv2
                          replace Ma := Lib.hid (Ma.out.below hBw14)
                          replace Mb := Lib.hid (Mb.out.below hBw14)
                          replace Mc := Lib.hid (Mc.out.below hBw14)
                          replace Mx := Lib.hid (Mx.out.below hBw14)
                          replace My := Lib.hid (My.out.below hBw14)
                          replace Mz := Lib.hid (Mz.out.below hBw14)
                          replace Mv := Lib.hid (Mv.out.below hBw14)
                          replace HB := Lib.hid (below_then HB.out hBw14)
                          clear hBw14
                          replace Ma := Lib.hid (Ma.out.alloc (.cells #[.int .i64 (R : Nat), .int .i64 (R : Nat), .slice Ai (xi).length ki] 24))
                          replace Mb := Lib.hid (Mb.out.alloc (.cells #[.int .i64 (R : Nat), .int .i64 (R : Nat), .slice Ai (xi).length ki] 24))
                          replace Mc := Lib.hid (Mc.out.alloc (.cells #[.int .i64 (R : Nat), .int .i64 (R : Nat), .slice Ai (xi).length ki] 24))
                          replace Mx := Lib.hid (Mx.out.alloc (.cells #[.int .i64 (R : Nat), .int .i64 (R : Nat), .slice Ai (xi).length ki] 24))
                          replace My := Lib.hid (My.out.alloc (.cells #[.int .i64 (R : Nat), .int .i64 (R : Nat), .slice Ai (xi).length ki] 24))
                          replace Mz := Lib.hid (Mz.out.alloc (.cells #[.int .i64 (R : Nat), .int .i64 (R : Nat), .slice Ai (xi).length ki] 24))
                          replace Mv := Lib.hid (Mv.out.alloc (.cells #[.int .i64 (R : Nat), .int .i64 (R : Nat), .slice Ai (xi).length ki] 24))
                          replace HB := Lib.hid (below_alloc HB.out (.cells #[.int .i64 (R : Nat), .int .i64 (R : Nat), .slice Ai (xi).length ki] 24))
                          have Mi := Lib.hid (MB.new (r := (R : Nat)) (c := (R : Nat)) hpw14.1 hpw14.2)
                          clear hpw14 how14
                          obtain ⟨qa0, qa1, qa2⟩ := Ma.out.cells
                          obtain ⟨qb0, qb1, qb2⟩ := Mb.out.cells
                          obtain ⟨qc0, qc1, qc2⟩ := Mc.out.cells
                          obtain ⟨qx0, qx1, qx2⟩ := Mx.out.cells
                          obtain ⟨qy0, qy1, qy2⟩ := My.out.cells
                          obtain ⟨qz0, qz1, qz2⟩ := Mz.out.cells
                          obtain ⟨qv0, qv1, qv2⟩ := Mv.out.cells
                          obtain ⟨qi0, qi1, qi2⟩ := Mi.out.cells
                          go_wp2_with fail
                          generalize w14.alloc (.cells #[.int .i64 (R : Nat), .int .i64 (R : Nat), .slice Ai (xi).length ki] 24) = w14a at *
                          generalize w14.heap.size = gi at *
                          refine (P6.out _ _ _ Mi.out.cap Mi.out.rd Ma.out.rd).mono ?_; rintro e w15 ⟨Au, ku, rfl, how15, hBw15⟩
                          have hpw15 := mret_parts how15
                          clear qa0 qa1 qa2 qb0 qb1 qb2 qc0 qc1 qc2 qx0 qx1 qx2 qy0 qy1 qy2 qz0 qz1 qz2 qv0 qv1 qv2 qi0 qi1 qi2
                          replace Ma := Lib.hid (Ma.out.below hBw15)
                          replace Mb := Lib.hid (Mb.out.below hBw15)
                          replace Mc := Lib.hid (Mc.out.below hBw15)
                          replace Mx := Lib.hid (Mx.out.below hBw15)
                          replace My := Lib.hid (My.out.below hBw15)
                          replace Mz := Lib.hid (Mz.out.below hBw15)
                          replace Mv := Lib.hid (Mv.out.below hBw15)
                          replace Mi := Lib.hid (Mi.out.below hBw15)
                          replace HB := Lib.hid (below_then HB.out hBw15)
                          clear hBw15
                          replace Ma := Lib.hid (Ma.out.alloc (.cells #[.int .i64 (R : Nat), .int .i64 (K : Nat), .slice Au (xa).length ku] 24))
                          replace Mb := Lib.hid (Mb.out.alloc (.cells #[.int .i64 (R : Nat), .int .i64 (K : Nat), .slice Au (xa).length ku] 24))
                          replace Mc := Lib.hid (Mc.out.alloc (.cells #[.int .i64 (R : Nat), .int .i64 (K : Nat), .slice Au (xa).length ku] 24))
                          replace Mx := Lib.hid (Mx.out.alloc (.cells #[.int .i64 (R : Nat), .int .i64 (K : Nat), .slice Au (xa).length ku] 24))
                          replace My := Lib.hid (My.out.alloc (.cells #[.int .i64 (R : Nat), .int .i64 (K : Nat), .slice Au (xa).length ku] 24))
                          replace Mz := Lib.hid (Mz.out.alloc (.cells #[.int .i64 (R : Nat), .int .i64 (K : Nat), .slice Au (xa).length ku] 24))
                          replace Mv := Lib.hid (Mv.out.alloc (.cells #[.int .i64 (R : Nat), .int .i64 (K : Nat), .slice Au (xa).length ku] 24))
                          replace Mi := Lib.hid (Mi.out.alloc (.cells #[.int .i64 (R : Nat), .int .i64 (K : Nat), .slice Au (xa).length ku] 24))
                          replace HB := Lib.hid (below_alloc HB.out (.cells #[.int .i64 (R : Nat), .int .i64 (K : Nat), .slice Au (xa).length ku] 24))
                          have Mu := Lib.hid (MB.new (r := (R : Nat)) (c := (K : Nat)) hpw15.1 hpw15.2)
                          clear hpw15 how15
                          obtain ⟨qa0, qa1, qa2⟩ := Ma.out.cells
                          obtain ⟨qb0, qb1, qb2⟩ := Mb.out.cells
                          obtain ⟨qc0, qc1, qc2⟩ := Mc.out.cells
                          obtain ⟨qx0, qx1, qx2⟩ := Mx.out.cells
                          obtain ⟨qy0, qy1, qy2⟩ := My.out.cells
                          obtain ⟨qz0, qz1, qz2⟩ := Mz.out.cells
                          obtain ⟨qv0, qv1, qv2⟩ := Mv.out.cells
                          obtain ⟨qi0, qi1, qi2⟩ := Mi.out.cells
                          obtain ⟨qu0, qu1, qu2⟩ := Mu.out.cells
                          go_wp2_with fail
                          generalize w15.alloc (.cells #[.int .i64 (R : Nat), .int .i64 (K : Nat), .slice Au (xa).length ku] 24) = w15a at *
                          generalize w15.heap.size = gu at *
                          refine (same_box My.out Mv.out).mono ?_; rintro e w16 ⟨rfl, hBw16⟩
                          clear qa0 qa1 qa2 qb0 qb1 qb2 qc0 qc1 qc2 qx0 qx1 qx2 qy0 qy1 qy2 qz0 qz1 qz2 qv0 qv1 qv2 qi0 qi1 qi2 qu0 qu1 qu2
                          replace Ma := Lib.hid (Ma.out.below hBw16)
                          replace Mb := Lib.hid (Mb.out.below hBw16)
                          replace Mc := Lib.hid (Mc.out.below hBw16)
                          replace Mx := Lib.hid (Mx.out.below hBw16)
                          replace My := Lib.hid (My.out.below hBw16)
                          replace Mz := Lib.hid (Mz.out.below hBw16)
                          replace Mv := Lib.hid (Mv.out.below hBw16)
                          replace Mi := Lib.hid (Mi.out.below hBw16)
                          replace Mu := Lib.hid (Mu.out.below hBw16)
                          replace HB := Lib.hid (below_then HB.out hBw16)
                          clear hBw16
                          obtain ⟨qa0, qa1, qa2⟩ := Ma.out.cells
                          obtain ⟨qb0, qb1, qb2⟩ := Mb.out.cells
                          obtain ⟨qc0, qc1, qc2⟩ := Mc.out.cells
                          obtain ⟨qx0, qx1, qx2⟩ := Mx.out.cells
                          obtain ⟨qy0, qy1, qy2⟩ := My.out.cells
                          obtain ⟨qz0, qz1, qz2⟩ := Mz.out.cells
                          obtain ⟨qv0, qv1, qv2⟩ := Mv.out.cells
                          obtain ⟨qi0, qi1, qi2⟩ := Mi.out.cells
                          obtain ⟨qu0, qu1, qu2⟩ := Mu.out.cells
                          go_wp2_with fail
                          refine (same_box Mu.out Ma.out).mono ?_; rintro e w17 ⟨rfl, hBw17⟩
                          clear qa0 qa1 qa2 qb0 qb1 qb2 qc0 qc1 qc2 qx0 qx1 qx2 qy0 qy1 qy2 qz0 qz1 qz2 qv0 qv1 qv2 qi0 qi1 qi2 qu0 qu1 qu2
                          replace Ma := Lib.hid (Ma.out.below hBw17)
                          replace Mb := Lib.hid (Mb.out.below hBw17)
                          replace Mc := Lib.hid (Mc.out.below hBw17)
                          replace Mx := Lib.hid (Mx.out.below hBw17)
                          replace My := Lib.hid (My.out.below hBw17)
                          replace Mz := Lib.hid (Mz.out.below hBw17)
                          replace Mv := Lib.hid (Mv.out.below hBw17)
                          replace Mi := Lib.hid (Mi.out.below hBw17)
                          replace Mu := Lib.hid (Mu.out.below hBw17)
                          replace HB := Lib.hid (below_then HB.out hBw17)
                          clear hBw17
                          go_wp2_with fail
                          go_ret
                          exact ⟨rfl, HB.out⟩
end Go.Proofs.Ytbokbndphpdgoaa
