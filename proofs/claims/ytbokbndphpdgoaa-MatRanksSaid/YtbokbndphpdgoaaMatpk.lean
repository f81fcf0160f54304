/-
  The law MatPicks.
-/
import Derived.Test.YtbokbndphpdgoaaMatj
namespace Go.Proofs.Ytbokbndphpdgoaa
set_option linter.unusedSimpArgs false
set_option linter.unusedVariables false
open Go.RowKit

/-- is a matrix more than statements reckon with? -/
def greatV (r c : Int) (n : Nat) : Bool := Matp.may r c n && decide (400 < n)
set_option maxRecDepth 100000 in
theorem great_any (r c : Int) (A : Option Addr) (n k : Nat) (w : World) : Calls Try.prog 22 #[.agg (mC r c (.slice A n k))] w fun e w' => e = .returned (.bool (greatV r c n)) ∧ Below w.heap.size w w' := by
  have M := fun W => Lib.hid (refMay_any r c A n k W)
  unfold greatV
  have hB0 := Lib.hid (fun o => (Below.refl w.heap.size w).alloc (Nat.le_refl _) o)
  unfold mC at *
  cases hm : Matp.may r c n
  · rw [hm] at M
    clear hm
    go_enter Try.func22, Try.ntmps22
    go_wp2_with fail
    refine (M _).out.mono ?_; rintro e w1 ⟨rfl, hB1⟩
    have HB1 := Lib.hid (below_boxed hB1)
    clear hB1
    go_wp2_with fail
    go_ret
    exact ⟨rfl, HB1.out⟩
  · rw [hm] at M
    have hd : Hid ((true && decide (400 < n)) = decide ((400 : Int) < (n : Int))) := by
      rw [Hid, Bool.true_and, Bool.eq_iff_iff, decide_eq_true_eq, decide_eq_true_eq]; omega
    rw [hd.out]
    clear hd hm
    go_enter Try.func22, Try.ntmps22
    go_wp2_with fail
    refine (M _).out.mono ?_; rintro e w1 ⟨rfl, hB1⟩
    obtain ⟨-, z0, z1, z2⟩ := boxedM hB1
    have HB1 := Lib.hid (below_boxed hB1)
    clear hB1
    go_wp2_with fail
    go_ret
    exact ⟨rfl, HB1.out⟩

/-- what both of Pick say -/
theorem picks_both (r c : Int) (A A' : Option Addr) (n k n' k' : Nat) (bs : List UInt8) (xs : List Int) (w : World) (hnk : n ≤ k)
    (h : Reads w w.heap.size 1 A n (bs.map B8)) (h' : Reads w w.heap.size 1 A' n' (xs.map I64)) : ∃ (r1 c1 : Nat) (cs1 : List UInt8) (er1 : Int),
    (∀ W, Below w.heap.size w W → Calls Try.prog 25 #[.agg #[.int .i64 r, .int .i64 c, .slice A n k], .slice A' n' k'] W (MRet W r1 c1 cs1 er1)) ∧
    (∀ W, Below w.heap.size w W → Calls Try.prog 26 #[.agg #[.int .i64 r, .int .i64 c, .slice A n k], .slice A' n' k'] W (MRet W r1 c1 cs1 er1)) := by
  by_cases hok : Matp.may r c n = true ∧ n' ≤ 255
  · obtain ⟨R, C, rfl, rfl, hR, hC, hn⟩ := may_nat hok.1
    cases hp : pickGo bs R C xs [] with
    | none =>
      exact ⟨0, 0, [], 13, fun W hW => pick_in R C A A' n k n' k' bs xs W hR hC hn hnk hok.2 ((h.below hW).more hW.size) ((h'.below hW).more hW.size) _ (fun out ho => by rw [hp] at ho; cases ho) (fun _ e w' hm => hm),
        fun W hW => refPick_in R C A A' n k n' k' bs xs W hR hC hn hnk hok.2 ((h.below hW).more hW.size) ((h'.below hW).more hW.size) _ (fun out ho => by rw [hp] at ho; cases ho) (fun _ e w' hm => hm)⟩
    | some out =>
      exact ⟨n', C, out, 0, fun W hW => pick_in R C A A' n k n' k' bs xs W hR hC hn hnk hok.2 ((h.below hW).more hW.size) ((h'.below hW).more hW.size) _ (fun o ho e w' hm => by rw [hp] at ho; injection ho with ho; subst ho; exact hm) (fun ho => by rw [hp] at ho; cases ho),
        fun W hW => refPick_in R C A A' n k n' k' bs xs W hR hC hn hnk hok.2 ((h.below hW).more hW.size) ((h'.below hW).more hW.size) _ (fun o ho e w' hm => by rw [hp] at ho; injection ho with ho; subst ho; exact hm) (fun ho => by rw [hp] at ho; cases ho)⟩
  · exact ⟨0, 0, [], 13, fun W _ => pick_bad r c A A' n k n' k' W hok, fun W _ => refPick_bad r c A A' n k n' k' W hok⟩

set_option maxRecDepth 100000 in
set_option maxHeartbeats 4000000 in
theorem matPicks_walk (r c : Int) (A : Option Addr) (n k : Nat) (bs : List UInt8) (A' : Option Addr) (n' k' : Nat) (xs : List Int) (w : World) (_hrc : (Lit.int .i64 r).wf = true ∧ (Lit.int .i64 c).wf = true) (hnk : n ≤ k) (_m : k ≤ maxLen) (h : Reads w w.heap.size 1 A n (bs.map B8))
    (_l' : n' ≤ k') (_m' : k' ≤ maxLen) (h' : Reads w w.heap.size 1 A' n' (xs.map I64) ∧ ∀ x ∈ xs, (Lit.int .i64 x).wf = true) :
    Calls Try.prog 6 #[.agg #[.int .i64 r, .int .i64 c, .slice A n k], .slice A' n' k'] w fun e w' => e = .returned (.bool true) ∧ Below w.heap.size w w' := by
  have hz := (zero_of_info info_m).1
  obtain ⟨r1, c1, cs1, er1, P1, P2⟩ := picks_both r c A A' n k n' k' bs xs w hnk h h'.1
  have G := fun W => Lib.hid (great_any r c A n k W)
  replace P1 := Lib.hid P1; replace P2 := Lib.hid P2
  unfold MRet at P1 P2
  unfold mC at G P1 P2
  clear h h' hnk _hrc _m _l' _m'
  go_enter Try.func6, Try.ntmps6
  go_wp2_with fail
  have hBx : Hid (∀ W, Below (w.alloc (.cells #[.int .i64 r, .int .i64 c, .slice A n k] 24)).heap.size (w.alloc (.cells #[.int .i64 r, .int .i64 c, .slice A n k] 24)) W → Below w.heap.size w W ∧ W.cell? ⟨w.heap.size, 0, none⟩ = some (.int .i64 r) ∧ W.cell? ⟨w.heap.size, 1, none⟩ = some (.int .i64 c) ∧ W.cell? ⟨w.heap.size, 2, none⟩ = some (.slice A n k) ∧ w.heap.size < W.heap.size) := fun W hW => ⟨below_boxed hW, (boxedM hW).2.1, (boxedM hW).2.2.1, (boxedM hW).2.2.2, Nat.lt_of_lt_of_le (by simp) hW.size⟩
  generalize w.alloc (.cells #[.int .i64 r, .int .i64 c, .slice A n k] 24) = wb at *
  refine (alive_any _).mono ?_; rintro e w1 ⟨rfl, hB1⟩
  obtain ⟨-, x0, x1, x2, hzx⟩ := hBx.out w1 hB1
  replace hB1 := Lib.hid hB1
  go_wp2_with fail
  refine (G _).out.mono ?_; rintro e w2 ⟨rfl, hB2⟩
  have HB2 := Lib.hid (below_then hB1.out hB2)
  clear hB1 hB2 x0 x1 x2 hzx
  obtain ⟨HBw2, x0, x1, x2, hzx⟩ := hBx.out w2 HB2.out
  replace HBw2 := Lib.hid HBw2
  cases hg : greatV r c n
  · skip
    by_cases hn3 : 300 < n'
    · have hn3' : (300 : Int) < n' := by omega
      go_wp2_with fail
      go_ret
      exact ⟨rfl, HBw2.out⟩
    · have hn3' : (n' : Int) ≤ 300 := by omega
      go_wp2_with fail
      refine (P1.out _ HBw2.out).mono ?_; rintro e w3 ⟨A3, k3, rfl, ho3, hB3⟩
      have HB3 := Lib.hid (below_then HB2.out hB3)
      replace ho3 := Lib.hid ho3
      clear hB3 x0 x1 x2 hzx HB2 HBw2
      obtain ⟨HBw3, x0, x1, x2, hzx⟩ := hBx.out w3 HB3.out
      replace HBw3 := Lib.hid HBw3
      go_wp2_with fail
      clear x0 x1 x2 hzx
      have hbA1 : Blk (w3.alloc (.cells #[.int .i64 (r1 : Nat), .int .i64 (c1 : Nat), .slice A3 cs1.length k3] 24)) w3.heap.size 24 #[.int .i64 (r1 : Nat), .int .i64 (c1 : Nat), .slice A3 cs1.length k3] := Blk.new _ _ _
      have hoA := ho3.out.alloc (.cells #[.int .i64 (r1 : Nat), .int .i64 (c1 : Nat), .slice A3 cs1.length k3] 24)
      have hBA : Below wb.heap.size wb (w3.alloc (.cells #[.int .i64 (r1 : Nat), .int .i64 (c1 : Nat), .slice A3 cs1.length k3] 24)) := below_alloc HB3.out _
      generalize w3.alloc (.cells #[.int .i64 (r1 : Nat), .int .i64 (c1 : Nat), .slice A3 cs1.length k3] 24) = wA1 at *
      generalize hgA1 : w3.heap.size = gA1 at *
      clear hgA1
      obtain ⟨HBw4, x0, x1, x2, hzx⟩ := hBx.out wA1 hBA
      replace hbA1 := Lib.hid hbA1; replace hoA := Lib.hid hoA; replace hBA := Lib.hid hBA; replace HBw4 := Lib.hid HBw4
      refine (P2.out _ HBw4.out).mono ?_; rintro e w31 ⟨A31, k31, rfl, ho31, hB31⟩
      have HB31 := Lib.hid (below_then hBA.out hB31)
      have hb31 := Lib.hid (hbA1.out.below hB31 hbA1.out.lt)
      have hoA31 := Lib.hid (own_belowL hoA.out hB31)
      replace ho31 := Lib.hid ho31
      clear hB31 hBA hbA1 hoA ho3 HB3 HBw3 HBw4 x0 x1 x2 hzx
      have hbB : Blk (w31.alloc (.cells #[.int .i64 (r1 : Nat), .int .i64 (c1 : Nat), .slice A31 cs1.length k31] 24)) w31.heap.size 24 #[.int .i64 (r1 : Nat), .int .i64 (c1 : Nat), .slice A31 cs1.length k31] := Blk.new _ _ _
      have hbA1B := hb31.out.alloc (.cells #[.int .i64 (r1 : Nat), .int .i64 (c1 : Nat), .slice A31 cs1.length k31] 24)
      have hRA := Reads.of_own (hoA31.out.alloc (.cells #[.int .i64 (r1 : Nat), .int .i64 (c1 : Nat), .slice A31 cs1.length k31] 24))
      have hRB := Reads.of_own (ho31.out.alloc (.cells #[.int .i64 (r1 : Nat), .int .i64 (c1 : Nat), .slice A31 cs1.length k31] 24))
      have hBB : Below wb.heap.size wb (w31.alloc (.cells #[.int .i64 (r1 : Nat), .int .i64 (c1 : Nat), .slice A31 cs1.length k31] 24)) := below_alloc HB31.out _
      have S := Lib.hid (sameM_any (r1 : Nat) (c1 : Nat) A3 A31 cs1.length k3 cs1.length k31 cs1 _ hRA hRB)
      unfold mC at S
      have x0 := hbA1B.cell 0
      have x1 := hbA1B.cell 1
      have x2 := hbA1B.cell 2
      have y0 := hbB.cell 0
      have y1 := hbB.cell 1
      have y2 := hbB.cell 2
      simp only [List.getElem?_toArray, List.getElem?_cons_zero, List.getElem?_cons_succ] at x0 x1 x2 y0 y1 y2
      clear hbA1B hRA hRB hbB
      go_wp2_with fail
      refine S.out.mono ?_; rintro e w41 ⟨rfl, hB4⟩
      have HB41 := Lib.hid ((hBx.out _ (below_then hBB hB4)).1)
      clear hB4 hBB x0 x1 x2 y0 y1 y2 S hb31 hoA31 ho31 HB31
      go_wp2_with fail
      go_ret
      exact ⟨rfl, HB41.out⟩
  · skip
    go_wp2_with fail
    go_ret
    exact ⟨rfl, HBw2.out⟩
end Go.Proofs.Ytbokbndphpdgoaa
