/-
  The law MatMuls.
-/
import Derived.Test.YtbokbndphpdgoaaMatv
namespace Go.Proofs.Ytbokbndphpdgoaa
set_option linter.unusedSimpArgs false
set_option linter.unusedVariables false
open Go.RowKit

/-- two boxes in a row, of matrices -/
theorem boxes2 {w : World} {r c r' c' : Int} {A A' : Option Addr} {n k n' k' : Nat} {xa xb : List UInt8} (h : Reads w w.heap.size 1 A n (xa.map B8)) (hk : n ≤ k) (h' : Reads w w.heap.size 1 A' n' (xb.map B8)) (hk' : n' ≤ k') :
    MB ((w.alloc (.cells #[.int .i64 r, .int .i64 c, .slice A n k] 24)).alloc (.cells #[.int .i64 r', .int .i64 c', .slice A' n' k'] 24)) w.heap.size r c A n k xa ∧ MB ((w.alloc (.cells #[.int .i64 r, .int .i64 c, .slice A n k] 24)).alloc (.cells #[.int .i64 r', .int .i64 c', .slice A' n' k'] 24)) (w.heap.size + 1) r' c' A' n' k' xb ∧
    Below w.heap.size w ((w.alloc (.cells #[.int .i64 r, .int .i64 c, .slice A n k] 24)).alloc (.cells #[.int .i64 r', .int .i64 c', .slice A' n' k'] 24)) := by
  have hB := (Below.refl w.heap.size w).alloc (Nat.le_refl _) (.cells #[.int .i64 r, .int .i64 c, .slice A n k] 24)
  have h2 := MB.new (r := r') (c := c') ((h'.below hB).more hB.size) hk'
  rw [show (w.alloc (.cells #[.int .i64 r, .int .i64 c, .slice A n k] 24)).heap.size = w.heap.size + 1 by simp] at h2
  exact ⟨(MB.new h hk).alloc _, h2, below_alloc hB _⟩

set_option maxRecDepth 100000 in
set_option maxHeartbeats 4000000 in
theorem matMuls_walk (r c : Int) (A : Option Addr) (n k : Nat) (xa : List UInt8) (r' c' : Int) (A' : Option Addr) (n' k' : Nat) (xb : List UInt8) (w : World) (_w1 : (Lit.int .i64 r).wf = true ∧ (Lit.int .i64 c).wf = true) (hnk : n ≤ k) (_m : k ≤ maxLen) (h : Reads w w.heap.size 1 A n (xa.map B8))
    (_w2 : (Lit.int .i64 r').wf = true ∧ (Lit.int .i64 c').wf = true) (hnk' : n' ≤ k') (_m' : k' ≤ maxLen) (h' : Reads w w.heap.size 1 A' n' (xb.map B8)) :
    Calls Try.prog 7 #[.agg #[.int .i64 r, .int .i64 c, .slice A n k], .agg #[.int .i64 r', .int .i64 c', .slice A' n' k']] w fun e w' => e = .returned (.bool true) ∧ Below w.heap.size w w' := by
  have hz := (zero_of_info info_m).1
  have G1 := Lib.hid (fun W => great_any r c A n k W)
  have G2 := Lib.hid (fun W => great_any r' c' A' n' k' W)
  obtain ⟨r1, c1, cs1, er1, P⟩ : ∃ r1 c1 cs1 er1, Hid (∀ W, Reads W W.heap.size 1 A n (xa.map B8) → Reads W W.heap.size 1 A' n' (xb.map B8) →
      Calls Try.prog 27 #[.agg #[.int .i64 r, .int .i64 c, .slice A n k], .agg #[.int .i64 r', .int .i64 c', .slice A' n' k']] W (MRet W r1 c1 cs1 er1) ∧
      Calls Try.prog 28 #[.agg #[.int .i64 r, .int .i64 c, .slice A n k], .agg #[.int .i64 r', .int .i64 c', .slice A' n' k']] W (MRet W r1 c1 cs1 er1)) :=
    ⟨_, _, _, _, fun W h1 h2 => muls_both r c r' c' A A' n k n' k' xa xb W hnk hnk' h1 h2⟩
  unfold MRet at P
  unfold mC at G1 G2 P
  obtain ⟨Ma, Mb, hB⟩ := boxes2 (r := r) (c := c) (r' := r') (c' := c') h hnk h' hnk'
  replace Ma := Lib.hid Ma; replace Mb := Lib.hid Mb
  have HB := Lib.hid hB
  clear hB h h' hnk hnk' _w1 _w2 _m _m'
  go_enter Try.func7, Try.ntmps7
  go_wp2_with fail
  generalize (w.alloc (.cells #[.int .i64 r, .int .i64 c, .slice A n k] 24)).alloc (.cells #[.int .i64 r', .int .i64 c', .slice A' n' k'] 24) = W0 at *
  refine (alive_any _).mono ?_; rintro e w1 ⟨rfl, hBw1⟩
  replace Ma := Lib.hid (Ma.out.below hBw1)
  replace Mb := Lib.hid (Mb.out.below hBw1)
  replace HB := Lib.hid (below_then HB.out hBw1)
  clear hBw1
  obtain ⟨qa0, qa1, qa2⟩ := Ma.out.cells
  obtain ⟨qb0, qb1, qb2⟩ := Mb.out.cells
  go_wp2_with fail
  refine (G1.out _).mono ?_; rintro e w2 ⟨rfl, hBw2⟩
  clear qa0 qa1 qa2 qb0 qb1 qb2
  replace Ma := Lib.hid (Ma.out.below hBw2)
  replace Mb := Lib.hid (Mb.out.below hBw2)
  replace HB := Lib.hid (below_then HB.out hBw2)
  clear hBw2
  obtain ⟨qa0, qa1, qa2⟩ := Ma.out.cells
  obtain ⟨qb0, qb1, qb2⟩ := Mb.out.cells
  cases hg : greatV r c n
  case true =>
    go_wp2_with fail
    go_ret
    exact ⟨rfl, HB.out⟩
  case false =>
    clear hg
    go_wp2_with fail
    refine (G2.out _).mono ?_; rintro e w3 ⟨rfl, hBw3⟩
    clear qa0 qa1 qa2 qb0 qb1 qb2
    replace Ma := Lib.hid (Ma.out.below hBw3)
    replace Mb := Lib.hid (Mb.out.below hBw3)
    replace HB := Lib.hid (below_then HB.out hBw3)
    clear hBw3
    obtain ⟨qa0, qa1, qa2⟩ := Ma.out.cells
    obtain ⟨qb0, qb1, qb2⟩ := Mb.out.cells
    cases hg : greatV r' c' n'
    case true =>
      go_wp2_with fail
      go_ret
      exact ⟨rfl, HB.out⟩
    case false =>
      clear hg
      go_wp2_with fail
      refine ((P.out _ Ma.out.rd Mb.out.rd).1).mono ?_; rintro e w4 ⟨Ax, kx, rfl, how4, hBw4⟩
      have hpw4 := mret_parts how4
      clear qa0 qa1 qa2 qb0 qb1 qb2
      replace Ma := Lib.hid (Ma.out.below hBw4)
      replace Mb := Lib.hid (Mb.out.below hBw4)
      replace HB := Lib.hid (below_then HB.out hBw4)
      clear hBw4
      replace Ma := Lib.hid (Ma.out.alloc (.cells #[.int .i64 (r1 : Nat), .int .i64 (c1 : Nat), .slice Ax (cs1).length kx] 24))
      replace Mb := Lib.hid (Mb.out.alloc (.cells #[.int .i64 (r1 : Nat), .int .i64 (c1 : Nat), .slice Ax (cs1).length kx] 24))
      replace HB := Lib.hid (below_alloc HB.out (.cells #[.int .i64 (r1 : Nat), .int .i64 (c1 : Nat), .slice Ax (cs1).length kx] 24))
      have Mx := Lib.hid (MB.new (r := (r1 : Nat)) (c := (c1 : Nat)) hpw4.1 hpw4.2)
      clear hpw4 how4
      obtain ⟨qa0, qa1, qa2⟩ := Ma.out.cells
      obtain ⟨qb0, qb1, qb2⟩ := Mb.out.cells
      obtain ⟨qx0, qx1, qx2⟩ := Mx.out.cells
      go_wp2_with fail
      generalize w4.alloc (.cells #[.int .i64 (r1 : Nat), .int .i64 (c1 : Nat), .slice Ax (cs1).length kx] 24) = w4a at *
      generalize w4.heap.size = gx at *
      refine ((P.out _ Ma.out.rd Mb.out.rd).2).mono ?_; rintro e w5 ⟨Ay, ky, rfl, how5, hBw5⟩
      have hpw5 := mret_parts how5
      clear qa0 qa1 qa2 qb0 qb1 qb2 qx0 qx1 qx2
      replace Ma := Lib.hid (Ma.out.below hBw5)
      replace Mb := Lib.hid (Mb.out.below hBw5)
      replace Mx := Lib.hid (Mx.out.below hBw5)
      replace HB := Lib.hid (below_then HB.out hBw5)
      clear hBw5
      replace Ma := Lib.hid (Ma.out.alloc (.cells #[.int .i64 (r1 : Nat), .int .i64 (c1 : Nat), .slice Ay (cs1).length ky] 24))
      replace Mb := Lib.hid (Mb.out.alloc (.cells #[.int .i64 (r1 : Nat), .int .i64 (c1 : Nat), .slice Ay (cs1).length ky] 24))
      replace Mx := Lib.hid (Mx.out.alloc (.cells #[.int .i64 (r1 : Nat), .int .i64 (c1 : Nat), .slice Ay (cs1).length ky] 24))
      replace HB := Lib.hid (below_alloc HB.out (.cells #[.int .i64 (r1 : Nat), .int .i64 (c1 : Nat), .slice Ay (cs1).length ky] 24))
      have My := Lib.hid (MB.new (r := (r1 : Nat)) (c := (c1 : Nat)) hpw5.1 hpw5.2)
      clear hpw5 how5
      obtain ⟨qa0, qa1, qa2⟩ := Ma.out.cells
      obtain ⟨qb0, qb1, qb2⟩ := Mb.out.cells
      obtain ⟨qx0, qx1, qx2⟩ := Mx.out.cells
      obtain ⟨qy0, qy1, qy2⟩ := My.out.cells
      go_wp2_with fail
      generalize w5.alloc (.cells #[.int .i64 (r1 : Nat), .int .i64 (c1 : Nat), .slice Ay (cs1).length ky] 24) = w5a at *
      generalize w5.heap.size = gy at *
      refine (same_box Mx.out My.out).mono ?_; rintro e w6 ⟨rfl, hBw6⟩
      clear qa0 qa1 qa2 qb0 qb1 qb2 qx0 qx1 qx2 qy0 qy1 qy2
      replace Ma := Lib.hid (Ma.out.below hBw6)
      replace Mb := Lib.hid (Mb.out.below hBw6)
      replace Mx := Lib.hid (Mx.out.below hBw6)
      replace My := Lib.hid (My.out.below hBw6)
      replace HB := Lib.hid (below_then HB.out hBw6)
      clear hBw6
      go_wp2_with fail
      go_ret
      exact ⟨rfl, HB.out⟩
end Go.Proofs.Ytbokbndphpdgoaa
