/-
  The law MatStacks.
-/
import Derived.Test.YtbokbndphpdgoaaMatt
import Derived.Test.YtbokbndphpdgoaaMatpk
namespace Go.Proofs.Ytbokbndphpdgoaa
set_option linter.unusedSimpArgs false
set_option linter.unusedVariables false
open Go.RowKit

/-- what both of Stack say -/
theorem stacks_both (A : Option Addr) (n k : Nat) (l : List (Int × Int × List UInt8)) (w : World) (hn : n ≤ 20) (h : MatsR w w.heap.size A n l) : ∃ (r1 c1 : Nat) (cs1 : List UInt8) (er1 : Int),
    (∀ W, Below w.heap.size w W → Calls Try.prog 23 #[.slice A n k] W (MRet W r1 c1 cs1 er1)) ∧
    (∀ W, Below w.heap.size w W → Calls Try.prog 24 #[.slice A n k] W (MRet W r1 c1 cs1 er1)) := by
  have more : ∀ W, Below w.heap.size w W → MatsR W W.heap.size A n l := fun W hW => by
    obtain ⟨h1, h2⟩ := h.below hW
    refine ⟨h1, fun hn => ?_⟩
    obtain ⟨ad, e, hB, hc⟩ := h2 hn
    refine ⟨ad, e, Nat.lt_of_lt_of_le hB hW.size, fun i hi => ?_⟩
    obtain ⟨Ai, ni, ci, h0, h1, h2, h3, h4⟩ := hc i hi
    exact ⟨Ai, ni, ci, h0, h1, h2, h3, h4.more hW.size⟩
  cases hp : stackGo (stackC l) l 0 [] with
  | none =>
    exact ⟨0, 0, [], 13, fun W hW => stack_any A n k l W hn (more W hW) _ (fun R out ho => by rw [hp] at ho; cases ho) (fun _ e w' hm => hm),
      fun W hW => refStack_any A n k l W hn (more W hW) _ (fun R out ho => by rw [hp] at ho; cases ho) (fun _ e w' hm => hm)⟩
  | some p =>
    obtain ⟨R, out⟩ := p
    exact ⟨R, (stackC l).toNat, out, 0, fun W hW => stack_any A n k l W hn (more W hW) _ (fun R' o ho C hC e w' hm => by
        rw [hp] at ho; injection ho with ho; injection ho with h1 h2; subst h1; subst h2; rw [hC, Int.toNat_natCast]; exact hm) (fun ho => by rw [hp] at ho; cases ho),
      fun W hW => refStack_any A n k l W hn (more W hW) _ (fun R' o ho C hC e w' hm => by
        rw [hp] at ho; injection ho with ho; injection ho with h1 h2; subst h1; subst h2; rw [hC, Int.toNat_natCast]; exact hm) (fun ho => by rw [hp] at ho; cases ho)⟩

set_option maxRecDepth 100000 in
set_option maxHeartbeats 4000000 in
theorem matStacks_walk (A : Option Addr) (n k : Nat) (l : List (Int × Int × List UInt8)) (w : World) (_hnk : n ≤ k) (_m : k ≤ maxLen) (h0 : MatsR w w.heap.size A n l ∧ ∀ t ∈ l, (Lit.int .i64 t.1).wf = true ∧ (Lit.int .i64 t.2.1).wf = true) :
    Calls Try.prog 5 #[.slice A n k] w fun e w' => e = .returned (.bool true) ∧ Below w.heap.size w w' := by
  have h := h0.1
  have hl : l.length = n := h.1
  have hz := (zero_of_info info_m).1
  clear h0 _hnk _m
  by_cases hn : 20 < n
  · have hn' : (20 : Int) < n := by omega
    clear h hl
    go_enter Try.func5, Try.ntmps5
    go_wp2_with fail
    refine (alive_any _).mono ?_; rintro e w1 ⟨rfl, hB1⟩
    replace hB1 := Lib.hid hB1
    go_wp2_with fail
    go_ret
    exact ⟨rfl, hB1.out⟩
  have hn' : (n : Int) ≤ 20 := by omega
  obtain ⟨r1, c1, cs1, er1, P1, P2⟩ := stacks_both A n k l w (by omega) h
  replace P1 := Lib.hid P1; replace P2 := Lib.hid P2
  unfold MRet at P1 P2
  unfold mC at P1 P2
  have H := Lib.hid h
  have L := Lib.hid hl
  have G := fun r c A n k W => Lib.hid (great_any r c A n k W)
  unfold mC at G
  clear h hl
  go_enter Try.func5, Try.ntmps5
  go_wp2_with fail
  refine (alive_any _).mono ?_; rintro e w1 ⟨rfl, hB1⟩
  replace hB1 := Lib.hid hB1
  go_wp2_with fail
  go_loopw [3] (fun v3 wr => ∃ (j : Nat), v3 = .int .i64 j ∧ j ≤ n ∧ Hid (Below w.heap.size w wr)) (fun v3 _ => n - (intOf v3).toNat)
  case atStart => exact ⟨0, rfl, by omega, hB1⟩
  case round =>
    clear hB1
    obtain ⟨j, rfl, hjn, HB⟩ := hrel
    by_cases hlt : j < n
    · have hlt' : (j : Int) < n := by omega
      have hjx : j < l.length := by rw [L.out]; exact hlt
      obtain ⟨ad, rfl, adb, Ai, ni, ci, e0, e1, e2, hnc, hread⟩ := (H.out.below HB.out).row j hjx
      generalize l[j].1 = r at *
      generalize l[j].2.1 = c at *
      clear hread
      have GI := Lib.hid (fun W => (G r c Ai ni ci W).out)
      clear G
      go_wp2_with fail
      refine (GI.out _).mono ?_; rintro e w2 ⟨rfl, hB2⟩
      have HB2 := Lib.hid (below_then HB.out hB2)
      clear hB2 GI
      generalize greatV r c ni = gv at *
      cases gv
      · skip
        go_wp2_with fail
        go_roundw
        case rel => exact ⟨j + 1, by go_num, by omega, HB2⟩
        case measure => simp [intOf]; omega
      · skip
        go_wp2_with fail
        go_ret
        exact ⟨rfl, HB2.out⟩
    · have hge : (n : Int) ≤ j := by omega
      go_wp2_with fail
      refine (P1.out _ HB.out).mono ?_; rintro e w3 ⟨A3, k3, rfl, ho3, hB3⟩
      have HB3 := Lib.hid (below_then HB.out hB3)
      replace ho3 := Lib.hid ho3
      clear hB3
      go_wp2_with fail
      have hbA1 : Blk (w3.alloc (.cells #[.int .i64 (r1 : Nat), .int .i64 (c1 : Nat), .slice A3 cs1.length k3] 24)) w3.heap.size 24 #[.int .i64 (r1 : Nat), .int .i64 (c1 : Nat), .slice A3 cs1.length k3] := Blk.new _ _ _
      have hoA := ho3.out.alloc (.cells #[.int .i64 (r1 : Nat), .int .i64 (c1 : Nat), .slice A3 cs1.length k3] 24)
      have hBA : Below w.heap.size w (w3.alloc (.cells #[.int .i64 (r1 : Nat), .int .i64 (c1 : Nat), .slice A3 cs1.length k3] 24)) := below_alloc HB3.out _
      generalize w3.alloc (.cells #[.int .i64 (r1 : Nat), .int .i64 (c1 : Nat), .slice A3 cs1.length k3] 24) = wA1 at *
      generalize hgA1 : w3.heap.size = gA1 at *
      clear hgA1
      replace hbA1 := Lib.hid hbA1; replace hoA := Lib.hid hoA; replace hBA := Lib.hid hBA
      refine (P2.out _ hBA.out).mono ?_; rintro e w31 ⟨A31, k31, rfl, ho31, hB31⟩
      have HB31 := Lib.hid (below_then hBA.out hB31)
      have hb31 := Lib.hid (hbA1.out.below hB31 hbA1.out.lt)
      have hoA31 := Lib.hid (own_belowL hoA.out hB31)
      replace ho31 := Lib.hid ho31
      clear hB31 hBA hbA1 hoA ho3 HB3
      have hbB : Blk (w31.alloc (.cells #[.int .i64 (r1 : Nat), .int .i64 (c1 : Nat), .slice A31 cs1.length k31] 24)) w31.heap.size 24 #[.int .i64 (r1 : Nat), .int .i64 (c1 : Nat), .slice A31 cs1.length k31] := Blk.new _ _ _
      have hbA1B := hb31.out.alloc (.cells #[.int .i64 (r1 : Nat), .int .i64 (c1 : Nat), .slice A31 cs1.length k31] 24)
      have hRA := Reads.of_own (hoA31.out.alloc (.cells #[.int .i64 (r1 : Nat), .int .i64 (c1 : Nat), .slice A31 cs1.length k31] 24))
      have hRB := Reads.of_own (ho31.out.alloc (.cells #[.int .i64 (r1 : Nat), .int .i64 (c1 : Nat), .slice A31 cs1.length k31] 24))
      have hBB : Below w.heap.size w (w31.alloc (.cells #[.int .i64 (r1 : Nat), .int .i64 (c1 : Nat), .slice A31 cs1.length k31] 24)) := below_alloc HB31.out _
      have S := Lib.hid (sameM_any (r1 : Nat) (c1 : Nat) A3 A31 cs1.length k3 cs1.length k31 cs1 _ hRA hRB)
      unfold mC at S
      have x0 := hbA1B.cell 0
      have x1 := hbA1B.cell 1
      have x2 := hbA1B.cell 2
      have y0 := hbB.cell 0
      have y1 := hbB.cell 1
      have y2 := hbB.cell 2
      simp only [List.getElem?_toArray, List.getElem?_cons_zero, List.getElem?_cons_succ] at x0 x1 x2 y0 y1 y2
      clear hbA1B hRA hRB hbB
      go_wp2_with fail
      refine S.out.mono ?_; rintro e w41 ⟨rfl, hB4⟩
      have HB41 := Lib.hid (below_then hBB hB4)
      clear hB4 hBB x0 x1 x2 y0 y1 y2 S hb31 hoA31 ho31 HB31
      go_wp2_with fail
      go_ret
      exact ⟨rfl, HB41.out⟩
end Go.Proofs.Ytbokbndphpdgoaa
