/-
  The law MatFlat.
-/
import Derived.Test.YtbokbndphpdgoaaMatwk7
import Derived.Test.YtbokbndphpdgoaaMatmul
namespace Go.Proofs.Ytbokbndphpdgoaa
set_option linter.unusedSimpArgs false
set_option linter.unusedVariables false
open Go.RowKit

/-- the first i are nothing -/
def allz (l : List UInt8) : Nat → Bool
  | 0 => true
  | i + 1 => allz l i && (l.getD i 0 == 0)
theorem allz_iff (l : List UInt8) : ∀ i, allz l i = true ↔ ∀ j, j < i → l.getD j 0 = 0
  | 0 => by simp [allz]
  | i + 1 => by
    unfold allz
    rw [Bool.and_eq_true, allz_iff l i, beq_iff_eq]
    constructor
    · rintro ⟨h1, h2⟩ j hj
      by_cases e : j = i
      · rw [e]; exact h2
      · exact h1 j (by omega)
    · intro h
      exact ⟨fun j hj => h j (by omega), h i (by omega)⟩
theorem allz_not (l : List UInt8) (i : Nat) (h : allz l i = false) : ∃ j, j < i ∧ l.getD j 0 ≠ 0 := by
  induction i with
  | zero => simp [allz] at h
  | succ i ih =>
    unfold allz at h
    rw [Bool.and_eq_false_iff] at h
    rcases h with h | h
    · obtain ⟨j, hj, hn⟩ := ih h
      exact ⟨j, by omega, hn⟩
    · exact ⟨i, by omega, by simpa using h⟩
theorem u8_zero_eq (y : UInt8) : ((y.toNat : Int) == 0) = (y == 0) := by
  by_cases h : y = 0
  · subst h; rfl
  · have h1 : y.toNat ≠ 0 := fun e => h (u8_ext (by rw [e]; rfl))
    rw [beq_eq_false_iff_ne.2 h, beq_eq_false_iff_ne]
    omega
theorem getD_some {l : List UInt8} {i : Nat} {y : UInt8} (h : l[i]? = some y) : l.getD i 0 = y := by
  rw [List.getD_eq_getElem?_getD, h]; rfl

set_option maxRecDepth 100000 in
set_option maxHeartbeats 8000000 in
theorem matFlat_walk (r c : Int) (A : Option Addr) (n k : Nat) (xa : List UInt8) (A' : Option Addr) (n' k' : Nat) (xb : List UInt8) (w : World) (_w1 : (Lit.int .i64 r).wf = true ∧ (Lit.int .i64 c).wf = true) (hnk : n ≤ k) (_m : k ≤ maxLen) (h : Reads w w.heap.size 1 A n (xa.map B8))
    (hnk' : n' ≤ k') (_m' : k' ≤ maxLen) (h' : Reads w w.heap.size 1 A' n' (xb.map B8)) :
    Calls Try.prog 10 #[.agg #[.int .i64 r, .int .i64 c, .slice A n k], .slice A' n' k'] w fun e w' => e = .returned (.bool true) ∧ Below w.heap.size w w' := by
  have hz := (zero_of_info info_m).1
  have G := fun r c A n k W => Lib.hid (great_any r c A n k W)
  have Y := fun r c A n k W => Lib.hid (refMay_any r c A n k W)
  unfold mC at G Y
  replace G := Lib.hid G
  replace Y := Lib.hid Y
  have L1 := Lib.hid h.len
  have L2 := Lib.hid h'.len
  have N1 := Lib.hid hnk; have N2 := Lib.hid hnk'
  have Ma := Lib.hid (MB.new (r := r) (c := c) h hnk)
  have HB := Lib.hid ((Below.refl w.heap.size w).alloc (Nat.le_refl _) (.cells #[.int .i64 r, .int .i64 c, .slice A n k] 24))
  have RB := Lib.hid (fun W (hW : Below w.heap.size w W) => (h'.below hW).more hW.size)
  clear h h' hnk hnk' _w1 _m _m'
  go_enter Try.func10, Try.ntmps10
  go_wp2_with fail
  generalize w.alloc (.cells #[.int .i64 r, .int .i64 c, .slice A n k] 24) = W0 at *
  refine (alive_any _).mono ?_; rintro e w1 ⟨rfl, hBw1⟩
  replace Ma := Lib.hid (Ma.out.below hBw1)
  replace HB := Lib.hid (below_then HB.out hBw1)
  clear hBw1
  obtain ⟨qa0, qa1, qa2⟩ := Ma.out.cells
  go_wp2_with fail
  refine ((G.out r c A n k _).out).mono ?_; rintro e w2 ⟨rfl, hBw2⟩
  clear qa0 qa1 qa2
  replace Ma := Lib.hid (Ma.out.below hBw2)
  replace HB := Lib.hid (below_then HB.out hBw2)
  clear hBw2
  obtain ⟨qa0, qa1, qa2⟩ := Ma.out.cells
  cases hg : greatV r c n
  case true =>
    go_wp2_with fail
    go_ret
    exact ⟨rfl, HB.out⟩
  case false =>
    clear hg
    go_wp2_with fail
    refine ((Y.out r c A n k _).out).mono ?_; rintro e w3 ⟨rfl, hBw3⟩
    clear qa0 qa1 qa2
    replace Ma := Lib.hid (Ma.out.below hBw3)
    replace HB := Lib.hid (below_then HB.out hBw3)
    clear hBw3
    obtain ⟨qa0, qa1, qa2⟩ := Ma.out.cells
    cases hm0 : Matp.may r c n
    case false =>
      go_wp2_with fail
      go_ret
      exact ⟨rfl, HB.out⟩
    case true =>
      replace hm0 := Lib.hid hm0
      by_cases hq : r = c
      case neg =>
        have hne : (r == c) = false := by rw [beq_eq_false_iff_ne]; exact hq
        have hne2 : (r != c) = true := by unfold bne; rw [hne]; rfl
        go_wp2_with fail
        go_ret
        exact ⟨rfl, HB.out⟩
      case pos =>
        subst hq
        by_cases hq : (n' : Int) = r
        case neg =>
          have hne : ((n' : Int) == r) = false := by rw [beq_eq_false_iff_ne]; exact hq
          have hne2 : ((n' : Int) != r) = true := by unfold bne; rw [hne]; rfl
          go_wp2_with fail
          go_ret
          exact ⟨rfl, HB.out⟩
        case pos =>
          obtain ⟨R, R', rfl, hr2, hR, -, hn⟩ := may_nat hm0.out
          obtain rfl : R = R' := by omega
          obtain rfl : n' = R := by omega
          clear hq hr2 hm0
          replace hn := Lib.hid hn
          obtain ⟨xp, hxp⟩ : ∃ x, x = mulC xb xa 1 n' n' := ⟨_, rfl⟩
          have lxp : xp.length = n' := by rw [hxp, mulC_len, Nat.one_mul]
          have P3 : Hid (∀ W, Reads W W.heap.size 1 A' n' (xb.map B8) → Reads W W.heap.size 1 A n (xa.map B8) → Calls Try.prog 27 #[.agg #[.int .i64 1, .int .i64 n', .slice A' n' k'], .agg #[.int .i64 n', .int .i64 n', .slice A n k]] W fun e w' => ∃ Ax kx, e = .returned (.tuple #[.agg #[.int .i64 1, .int .i64 n', .slice Ax n' kx], .int .i64 0]) ∧ w'.ownsRow W.heap.size 5 1 (.slice Ax n' kx) n' (xp.map B8) ∧ Below W.heap.size W w') := fun W h1 h2 => by
            have h3 := mul_in 1 n' n' A' A n' k' n k xb xa W (by omega) hR hR (by omega) N2.out hn.out N1.out h1 h2
            rw [← hxp] at h3
            unfold MRet at h3
            rw [lxp] at h3
            exact h3
          have PI : Hid (allz xb n' = false → allz xp n' = true → ∀ W, Reads W W.heap.size 1 A n (xa.map B8) → Calls Try.prog 31 #[.agg #[.int .i64 n', .int .i64 n', .slice A n k]] W fun e w' => ∃ Ax kx, e = .returned (.tuple #[.agg #[.int .i64 0, .int .i64 0, .slice Ax 0 kx], .int .i64 14]) ∧ w'.ownsRow W.heap.size 5 1 (.slice Ax 0 kx) 0 (([] : List UInt8).map B8) ∧ Below W.heap.size W w') := fun h1 h2 W hW => by
            have h3 := inverse_in n' A n k xa W hR hn.out hW
            have h4 := inv_flat (R := n') (xb := xb) (bs := xa) L2.out (fun j hj => by rw [← hxp]; exact (allz_iff xp n').1 h2 j hj) (allz_not xb n' h1)
            refine h3.mono fun e w' hr => ?_
            rw [h4] at hr
            exact hr
          have SE : Hid (∀ Ax kx W, Reads W W.heap.size 1 Ax 0 (([] : List UInt8).map B8) → Calls Try.prog 19 #[.agg #[.int .i64 0, .int .i64 0, .slice Ax 0 kx], .agg #[.int .i64 0, .int .i64 0, .slice none 0 0]] W fun e w' => e = .returned (.bool true) ∧ Below W.heap.size W w') := fun Ax kx W hW => sameM_any 0 0 Ax none 0 kx 0 0 [] W hW Reads.none_
          clear hxp
          obtain ⟨o0, o1, o2⟩ := Ma.out.cells
          replace Ma := Lib.hid (Ma.out.alloc (.cells #[.int .i64 1, .int .i64 n', .slice A' n' k'] 24))
          have Mv := Lib.hid (MB.new (r := 1) (c := n') (RB.out _ HB.out) N2.out)
          replace HB := Lib.hid (below_alloc HB.out (.cells #[.int .i64 1, .int .i64 n', .slice A' n' k'] 24))
          clear qa0 qa1 qa2
          obtain ⟨qa0, qa1, qa2⟩ := Ma.out.cells
          obtain ⟨qv0, qv1, qv2⟩ := Mv.out.cells
          go_wp2_with fail
          clear o0 o1 o2
          generalize w3.alloc (.cells #[.int .i64 1, .int .i64 n', .slice A' n' k'] 24) = W5 at *
          generalize w3.heap.size = gv at *
          refine (P3.out _ (RB.out _ HB.out) Ma.out.rd).mono ?_; rintro e w4 ⟨Ap, kp, rfl, ho, hBw4⟩
          have hp := mret_parts ho
          clear qa0 qa1 qa2 qv0 qv1 qv2
          replace Ma := Lib.hid (Ma.out.below hBw4)
          replace Mv := Lib.hid (Mv.out.below hBw4)
          replace HB := Lib.hid (below_then HB.out hBw4)
          clear hBw4
          replace Ma := Lib.hid (Ma.out.alloc (.cells #[.int .i64 1, .int .i64 n', .slice Ap n' kp] 24))
          replace Mv := Lib.hid (Mv.out.alloc (.cells #[.int .i64 1, .int .i64 n', .slice Ap n' kp] 24))
          replace HB := Lib.hid (below_alloc HB.out (.cells #[.int .i64 1, .int .i64 n', .slice Ap n' kp] 24))
          have Mp := Lib.hid (MB.new (r := 1) (c := n') hp.1 hp.2)
          clear hp ho
          obtain ⟨qa0, qa1, qa2⟩ := Ma.out.cells
          obtain ⟨qv0, qv1, qv2⟩ := Mv.out.cells
          obtain ⟨qp0, qp1, qp2⟩ := Mp.out.cells
          go_wp2_with fail
          generalize w4.alloc (.cells #[.int .i64 1, .int .i64 n', .slice Ap n' kp] 24) = W6 at *
          generalize w4.heap.size = gp at *
          clear qa0 qa1 qa2 qv0 qv1 qv2 qp0 qp1 qp2
          have KP := Lib.hid (fun W (hW : Below W6.heap.size W6 W) => (Mp.out.below hW))
          have KA := Lib.hid (fun W (hW : Below W6.heap.size W6 W) => (Ma.out.below hW))
          have KH := Lib.hid (fun W (hW : Below W6.heap.size W6 W) => below_then HB.out hW)
          clear Ma Mv Mp HB
          go_loopw [8, 9, 10] (fun v8 v9 v10 wr => ∃ i : Nat, v10 = .int .i64 i ∧ i ≤ n' ∧ v9 = .bool (allz xb i) ∧ v8 = .bool (allz xp i) ∧ Hid (Below W6.heap.size W6 wr)) (fun _ _ v10 _ => n' - (intOf v10).toNat)
          case atStart => exact ⟨0, rfl, by omega, rfl, rfl, Below.refl _ _⟩
          case round =>
            obtain ⟨i, rfl, hin, rfl, rfl, HB6⟩ := hrel
            have MP := KP.out wr HB6.out
            obtain ⟨q0, q1, q2⟩ := MP.cells
            by_cases hlt : i < n'
            · have hlt' : (i : Int) < (n' : Int) := by omega
              obtain ⟨ad, y, rfl, -, hy, ey⟩ := (RB.out wr (KH.out _ HB6.out)).byte (k := i) hlt
              obtain ⟨ad2, z, rfl, -, hz2, ez⟩ := MP.rd.byte (k := i) hlt
              have e1 : Hid (allz xb (i + 1) = (allz xb i && ((y.toNat : Int) == 0))) := by unfold Hid; rw [u8_zero_eq, ← getD_some hy]; rfl
              have e2 : Hid (allz xp (i + 1) = (allz xp i && ((z.toNat : Int) == 0))) := by unfold Hid; rw [u8_zero_eq, ← getD_some hz2]; rfl
              have y8 := y.toNat_lt
              have z8 := z.toNat_lt
              generalize y.toNat = yn at *
              generalize z.toNat = zn at *
              clear hy hz2 MP
              obtain ⟨b1, hb1⟩ : ∃ b, allz xb i = b := ⟨_, rfl⟩
              obtain ⟨b2, hb2⟩ : ∃ b, allz xp i = b := ⟨_, rfl⟩
              rw [hb1] at e1
              rw [hb2] at e2
              rw [hb1, hb2]
              clear hb1 hb2
              cases b1 <;> cases b2
              all_goals
                go_wp2_with fail
                go_roundw
                case rel => exact ⟨i + 1, by go_num, by omega, by rw [e1.out]; simp, by rw [e2.out]; simp, HB6⟩
                case measure => simp [intOf]; omega
            · have hge : (n' : Int) ≤ (i : Int) := by omega
              obtain rfl : i = n' := by omega
              have HBw := Lib.hid (KH.out _ HB6.out)
              have Ma := Lib.hid (KA.out _ HB6.out)
              obtain ⟨b1, hb1⟩ : ∃ b, allz xb i = b := ⟨_, rfl⟩
              obtain ⟨b2, hb2⟩ : ∃ b, allz xp i = b := ⟨_, rfl⟩
              rw [hb1, hb2] at PI
              rw [hb1, hb2]
              obtain ⟨qa0, qa1, qa2⟩ := Ma.out.cells
              clear hb1 hb2 MP
              cases b1
              case true =>
                go_wp2_with fail
                go_ret
                exact ⟨rfl, HBw.out⟩
              case false =>
                cases b2
                case false =>
                  go_wp2_with fail
                  go_ret
                  exact ⟨rfl, HBw.out⟩
                case true =>
                  have PI2 := Lib.hid (PI.out rfl rfl)
                  go_wp2_with fail
                  refine (PI2.out _ Ma.out.rd).mono ?_; rintro e w9 ⟨Ax, kx, rfl, ho, hB⟩
                  have hp := mret_parts ho
                  have HB9 := Lib.hid (below_alloc (below_then HBw.out hB) (.cells #[.int .i64 0, .int .i64 0, .slice Ax 0 kx] 24))
                  have Mx := Lib.hid (MB.new (r := 0) (c := 0) hp.1 hp.2)
                  obtain ⟨x0, x1, x2⟩ := Mx.out.cells
                  clear ho hB hp
                  go_wp2_with fail
                  refine (SE.out _ _ _ Mx.out.rd).mono ?_; rintro e w10 ⟨rfl, hB⟩
                  have HB10 := Lib.hid (below_then HB9.out hB)
                  clear hB x0 x1 x2
                  go_wp2_with fail
                  go_ret
                  exact ⟨rfl, HB10.out⟩
end Go.Proofs.Ytbokbndphpdgoaa
