/-
  The document's Mend, walked.
-/
import Derived.Test.YtjbedcgacnnanaaDoorRsm
import Derived.Test.YtjbedcgacnnanaaDoorRso
namespace Go.Proofs.YtjbedcgacnnanaaDoor
set_option linter.unusedSimpArgs false
set_option linter.unusedVariables false
open Go.RowKit

/-- a list of the call's own and another one behind it: behind append(l, m...) -/
theorem Lists.cat {W W4 : World} {b0 base n m c c3 : Nat} {A A3 : Option Addr} {xss yss : List (List UInt8)} {vs vs' : List Value} (h1 : W.ownsRow base 27 1 (.slice A n c) n vs)
    (h2 : xss.length = n) (h3 : ∀ (i : Nat) (xs : List UInt8), xss[i]? = some xs → ∃ (Ai : Option Addr) (ci : Nat), vs[i]? = some (.slice Ai xs.length ci) ∧ RowOK W b0 base Ai ci xs) (h0 : b0 ≤ base) (hb : base ≤ W.heap.size)
    (hl' : vs'.length = m) (h2' : yss.length = m) (h3' : ∀ (i : Nat) (xs : List UInt8), yss[i]? = some xs → ∃ (Ai : Option Addr) (ci : Nat), vs'[i]? = some (.slice Ai xs.length ci) ∧ RowOK W b0 base Ai ci xs)
    (ho4 : W4.ownsRow base 27 1 (.slice A3 (n + m) c3) (n + m) (vs ++ vs')) (hg4 : W.grownBy W4 (A.map (·.block))) :
    Lists W4 b0 base A3 (n + m) c3 (xss ++ yss) := by
  have keep : ∀ (A' : Option Addr) (c' : Nat) (ys : List UInt8), RowOK W b0 base A' c' ys → RowOK W4 b0 base A' c' ys := fun A' c' ys ho => by
    rcases A with _ | ad
    · obtain ⟨o1, o2, o3⟩ := ho
      refine ⟨o1, o2, ?_⟩
      rcases o3 with o3 | o3
      · exact .inl (o3.keep fun p hp => World.cell?_of_block (hg4.block p.block (by omega) (by simp)))
      · refine .inr (ownsRow_block o3 (fun a ha => ?_))
        obtain ⟨cs, fr, hh⟩ := own_row o3 a.block (by rw [ha]; rfl)
        exact hg4.block _ (lt_of_heap hh) (by simp)
    · obtain ⟨cs, fr, hh⟩ := own_row h1 ad.block rfl
      have hbg : base ≤ ad.block := (h1.lt ad.block rfl).1
      exact ho.other h0 hh hbg (fun g hg hne => hg4.block g hg (by simpa using hne))
  have hl : vs.length = n := by have := h1.1; omega
  refine ⟨⟨_, ho4, by rw [List.length_append, h2, h2'], fun i ys hi => ?_⟩, Nat.le_trans hb hg4.size, h0⟩
  by_cases e : i < n
  · rw [List.getElem?_append_left (by omega)] at hi
    obtain ⟨Ai, ci, a1, a2⟩ := h3 i ys hi
    exact ⟨Ai, ci, by rw [List.getElem?_append_left (by omega)]; exact a1, keep _ _ _ a2⟩
  · rw [List.getElem?_append_right (by omega), h2] at hi
    obtain ⟨Ai, ci, a1, a2⟩ := h3' _ ys hi
    exact ⟨Ai, ci, by rw [List.getElem?_append_right (by omega), hl]; exact a1, keep _ _ _ a2⟩
theorem below_of_alloc {w W : World} {o : Obj} (h : Below (w.alloc o).heap.size (w.alloc o) W) : Below w.heap.size w W := ((Below.refl _ _).alloc (Nat.le_refl _) _).trans (h.mono (by simp))
section
variable {P : Program} {ops : Array Oper} {Q : Exit → Act → World → Prop} {md : Region.Mode} {S : World → Prop} {n : Nat}
/-- one of two operations comes up: both ways -/
theorem forked (i j : Nat) {oi oj : Oper} {ri rj : List Oper} {fuel : Nat} {listed : Array Bool} {a : Act} {w : World} (hi : ops.toList.drop i = oi :: ri) (hj : ops.toList.drop j = oj :: rj)
    (hr : Region.ready md ops listed = [i, j]) (hwi : Region.wanted oi (yielded ops a.tmps) = true) (hwj : Region.wanted oj (yielded ops a.tmps) = true)
    (h1 : ∀ K' : Act → World → Prop, Shut (∀ a w, S w → (S w → wpAnyE P md ops Q S n fuel (listed.setIfInBounds i true) a w) → K' a w) → Oper.wp P oi a w K' Q)
    (h2 : ∀ K' : Act → World → Prop, Shut (∀ a w, S w → (S w → wpAnyE P md ops Q S n fuel (listed.setIfInBounds j true) a w) → K' a w) → Oper.wp P oj a w K' Q) : wpAnyE P md ops Q S n (fuel + 1) listed a w := by
  refine ⟨fun h0 => absurd (h0.symm.trans hr) (by simp), fun k hk => ?_⟩
  rw [hr] at hk
  have hk' : k = i ∨ k = j := by simpa using hk
  rcases hk' with rfl | rfl
  · exact wpOp_step (drop_at hi) (fun K' hK => by rw [if_pos hwi]; exact h1 K' fun a w hS hW => hK a w ⟨fun _ => hS, hW hS⟩)
  · exact wpOp_step (drop_at hj) (fun K' hK => by rw [if_pos hwj]; exact h2 K' fun a w hS hW => hK a w ⟨fun _ => hS, hW hS⟩)
end
theorem rows_one {W : World} {b0 base : Nat} {vs : List Value} {xss : List (List UInt8)} (hl : vs.length = xss.length) (h3 : ∀ (i : Nat) (xs : List UInt8), xss[i]? = some xs → ∃ (Ai : Option Addr) (ci : Nat), vs[i]? = some (.slice Ai xs.length ci) ∧ RowOK W b0 base Ai ci xs) : ∀ u ∈ vs, u.oneCell' = true := fun u hu => by
  obtain ⟨i, hi, rfl⟩ := List.getElem_of_mem hu
  obtain ⟨Ai, ci, e, _⟩ := h3 i _ (List.getElem?_eq_getElem (by omega : i < xss.length))
  rw [List.getElem?_eq_getElem hi] at e
  injection e with e
  rw [e]; rfl
set_option maxRecDepth 100000 in
set_option maxHeartbeats 4000000 in
theorem refMend_bad (k m : Int) (A Ag : Option Addr) (n c ng cg : Nat) (xss : List (List UInt8)) (gs : List Bool) (w : World) (hl : xss.length = n) (hgl : gs.length = ng) (hn : n ≤ 100000) (hng : ng ≤ 100000)
    (h : ¬ (Rsp.may k m = true ∧ (n : Int) = k + m ∧ (ng : Int) = k + m)) :
    Calls Tryd.prog 33 #[.int .i64 k, .int .i64 m, .slice A n c, .slice Ag ng cg] w (LsErr w 0 [] 13) := by
  cases hm : Rsp.may k m with
  | false =>
    have KM : Hid (∀ W, Calls Tryd.prog 24 #[.int .i64 k, .int .i64 m] W fun e w' => e = .returned (.bool false) ∧ W = w') := fun W => by rw [← hm]; exact rsRefMay_any _ _ _
    clear h hl hgl hm
    go_enter Tryd.func33, Tryd.ntmps33
    go_wp2_with fail; refine (KM.out _).mono ?_; rintro e w' ⟨rfl, rfl⟩
    go_wp2_with fail
    go_ret2
    exact ⟨_, _, rfl, Lists.nil _ _ _ (Nat.zero_le _) (Nat.le_refl _), Below.refl _ _⟩
  | true =>
    have KM : Hid (∀ W, Calls Tryd.prog 24 #[.int .i64 k, .int .i64 m] W fun e w' => e = .returned (.bool true) ∧ W = w') := fun W => by rw [← hm]; exact rsRefMay_any _ _ _
    obtain ⟨q, hq⟩ : ∃ q : Nat, k + m = (q : Int) := by unfold Rsp.may at hm; simp at hm; exact ⟨(k + m).toNat, by omega⟩
    have hq2 : q ≤ 255 := by unfold Rsp.may at hm; simp at hm; omega
    have hor : n ≠ q ∨ (n = q ∧ ng ≠ q) := by
      by_cases h1 : n = q
      · exact .inr ⟨h1, fun h2 => h ⟨hm, by omega, by omega⟩⟩
      · exact .inl h1
    have hwr : IntKind.i64.wrap (k + m) = (q : Int) := by rw [hq, IntKind.wrap_i64]; omega
    have hwr2 : wrap64 (k + m) = (q : Int) := by rw [hq]; exact IntWalk.wrap64_in _ ⟨by omega, by omega⟩
    clear h hl hgl hm hq
    rcases hor with h1 | ⟨h1, h2⟩
    · have e1 : ((n : Int) == (q : Int)) = false := by simp; omega
      have e2 : ((n : Int) != (q : Int)) = true := by simp; omega
      go_enter Tryd.func33, Tryd.ntmps33
      go_wp2_with fail; refine (KM.out _).mono ?_; rintro e w' ⟨rfl, rfl⟩
      go_wp2_with fail
      go_ret2
      exact ⟨_, _, rfl, Lists.nil _ _ _ (Nat.zero_le _) (Nat.le_refl _), Below.refl _ _⟩
    · have e1 : ((ng : Int) == (q : Int)) = false := by simp; omega
      have e2 : ((ng : Int) != (q : Int)) = true := by simp; omega
      subst h1
      go_enter Tryd.func33, Tryd.ntmps33
      go_wp2_with fail; refine (KM.out _).mono ?_; rintro e w' ⟨rfl, rfl⟩
      go_wp2_with fail
      go_ret2
      exact ⟨_, _, rfl, Lists.nil _ _ _ (Nat.zero_le _) (Nat.le_refl _), Below.refl _ _⟩



set_option maxRecDepth 100000 in
set_option maxHeartbeats 16000000 in
theorem refMend_in (n0 p q : Nat) (A Ag : Option Addr) (c cg : Nat) (xss : List (List UInt8)) (gs : List Bool) (w : World) (hnp : n0 + p = q) (h1 : 1 ≤ n0) (hq : q ≤ 255) (hx : Rows8 w w.heap.size A q xss) (hg : Reads w w.heap.size 1 Ag q (gs.map Value.bool)) (hL : ∀ x ∈ xss, x.length ≤ 1000000) :
    Calls Tryd.prog 33 #[.int .i64 n0, .int .i64 p, .slice A q c, .slice Ag q cg] w (LsErr w (Rsp.mendV n0 p xss gs).length (Rsp.mendV n0 p xss gs) (Rsp.mendE n0 p xss gs)) := by
  have hm : Rsp.may (n0 : Int) (p : Int) = true := by unfold Rsp.may; simp; omega
  have hl : xss.length = n0 + p := by obtain ⟨_, _, h2, _⟩ := hx; omega
  have hgl : gs.length = n0 + p := by have := hg.len; omega
  have KM : Hid (∀ W, Calls Tryd.prog 24 #[.int .i64 n0, .int .i64 p] W fun e w' => e = .returned (.bool true) ∧ W = w') := fun W => by rw [← hm]; exact rsRefMay_any _ _ _
  have IN := Lib.hid (fun W hB => parts_in hx hg W hB)
  have NO := Lib.hid (fun i h => Rsp.gd_no (g := gs) (i := i) h)
  have YES := Lib.hid (fun i h => Rsp.gd_yes (g := gs) (i := i) h)
  have hGl := Rsp.gd_len gs q
  have esum : (n0 : Int) + (p : Int) = (q : Int) := by omega
  have hRl : (Rsp.rowsAt xss (Rsp.gd gs q)).length = (Rsp.gd gs q).length := Rsp.rowsAt_len _ _
  obtain ⟨i1, hi_, hy0, hy1, hy2⟩ := info_parts info_row8
  replace hi_ := Lib.hid hi_; replace hy0 := Lib.hid hy0; replace hy1 := Lib.hid hy1; replace hy2 := Lib.hid hy2
  obtain ⟨i2, hj, hx0, hx1, hx2⟩ := info_parts info_int
  replace hj := Lib.hid hj; replace hx0 := Lib.hid hx0; replace hx1 := Lib.hid hx1; replace hx2 := Lib.hid hx2
  obtain ⟨nG, hnG⟩ : ∃ nG, (Rsp.gd gs q).length = nG := ⟨_, rfl⟩
  rw [hnG] at hGl hRl
  cases ha : Rsp.alike (Rsp.rowsAt xss (Rsp.gd gs q)) with
  | false =>
    have hme := Rsp.mend_odd hm hl hgl (by rw [hnp]; exact ha)
    rw [hme.1, hme.2]
    have KA : Hid (∀ (W : World) (A2 : Option Addr) (c2 : Nat), Lists W w.heap.size w.heap.size A2 nG c2 (Rsp.rowsAt xss (Rsp.gd gs q)) → Calls Tryd.prog 43 #[.slice A2 nG c2] W fun e w' => e = .returned (.bool false) ∧ Dr W w') := fun W A2 c2 h => by rw [← ha]; exact refAlikeD_any A2 nG c2 _ W h.rows8 (by omega)
    clear hx hg hl hgl hL hme ha hm hnp hRl
    replace hnG := Lib.hid hnG
    go_enter Tryd.func33, Tryd.ntmps33
    go_wp2_with fail; refine (KM.out _).mono ?_; rintro e w' ⟨rfl, rfl⟩
    go_wp2_with fail
    go_loopw [10, 11, 12] (fun v10 v11 v12 wr => ∃ (i L c10 c11 : Nat) (A10 A11 : Option Addr), v12 = .int .i64 i ∧ v10 = .slice A10 L c10 ∧ v11 = .slice A11 L c11 ∧ i ≤ q ∧ L ≤ i ∧ Hid ((Rsp.gd gs i).length = L) ∧ Hid (Below w.heap.size w wr) ∧ Hid (wr.ownsRow w.heap.size 3 1 (.slice A11 L c11) L ((Rsp.gd gs i).map NV)) ∧ Hid (Lists wr w.heap.size w.heap.size A10 L c10 (Rsp.rowsAt xss (Rsp.gd gs i)))) (fun _ _ v12 _ => q - (intOf v12).toNat)
    case atStart => exact ⟨0, 0, 0, 0, none, none, rfl, rfl, rfl, by omega, by omega, rfl, Below.refl _ _, World.ownsRow_nil _ _ _ 1, Lists.nil _ _ _ (Nat.le_refl _) (Nat.le_refl _)⟩
    case round =>
      obtain ⟨i, L, c10, c11, A10, A11, rfl, rfl, rfl, hin, hLi, HLl, HB, HO, HL⟩ := hrel
      by_cases hlt : i < q
      · have hlt' : (i : Int) < (q : Int) := by omega
        obtain ⟨ad, b, Aj, Lj, cj, hA, hb, hln0, ej, hrow⟩ := (IN.out wr HB.out).row i hlt
        obtain ⟨ag, f, hAg, hf, eg⟩ := (IN.out wr HB.out).flag i hlt
        subst hA
        subst hAg
        replace hb := Lib.hid hb
        have hln := Lib.hid hln0
        replace hrow := Lib.hid hrow
        clear hln0
        cases f with
        | false =>
          have hs := NO.out i hf
          rw [← hs] at HO HL HLl
          replace hs := Lib.hid hs
          replace hf := Lib.hid hf
          go_wp2_with fail
          go_roundw
          case rel => exact ⟨i + 1, L, c10, c11, A10, A11, by go_num, rfl, rfl, by omega, by omega, HLl, HB, HO, HL⟩
          case measure => simp [intOf]; omega
        | true =>
          have hs := Lib.hid (YES.out i hf)
          replace hf := Lib.hid hf
          have hm1 : L + 1 ≤ maxLen := by unfold maxLen; omega
          have hm2 : (L + 1) * 8 ≤ 140737488355328 := by omega
          have hc1 : L + 1 ≤ maxLen := by unfold maxLen; omega
          have hc2 : (L + 1) * 24 ≤ 140737488355328 := by omega
          have hLa := HL.out.below ((Below.refl _ wr).alloc (Nat.le_refl _) (.cells #[.slice Aj Lj cj] 27))
          have hRa := RowOK.below (hrow.out wr HB.out) HL.out.b0s HL.out.bs ((Below.refl _ wr).alloc (Nat.le_refl _) (.cells #[.slice Aj Lj cj] 27))
          obtain ⟨⟨vs, hv1, hv2, hv3⟩, hvb, hv0⟩ := hLa
          replace hv1 := Lib.hid hv1; replace hv2 := Lib.hid hv2; replace hv3 := Lib.hid hv3; replace hvb := Lib.hid hvb; replace hv0 := Lib.hid hv0; replace hRa := Lib.hid hRa
          clear HL
          go_wp2_with (first | (at_builtin; refine wpList_append_any _ rfl (.tmp 56) (.tmp 61) 55 rfl w.heap.size 27 i1 (.slice none 0 0) 1 24 Tryd.underlying55 hi_.out hy0.out hy1.out hy2.out rfl (by omega) A10 L c10 _ rfl hv1.out (wr.heap.size + 1) _ 1 1 _ rfl (reads_one wr _ _) (one_one rfl) hc1 hc2 hvb.out ?_; intro A3 c3 w4 ho4 hgq _hsq; have hB4 : Below w.heap.size w w4 := below_app (HB.out.alloc HB.out.size (.cells #[.slice Aj Lj cj] 27)) hgq hv1.out hvb.out; have hP4 := Lists.pushN hln.out hRa.out hv1.out hv2.out hv3.out hv0.out hvb.out ho4 hgq; have hI4 := Lib.hid (own_apart (HO.out.alloc _) hv1.out (by decide) hgq); replace hB4 := Lib.hid hB4; replace hP4 := Lib.hid hP4; clear hgq _hsq ho4 hv1 hv2 hv3 hvb hv0 hRa) | (at_builtin; refine wpList_append_any _ rfl (.tmp 63) (.tmp 65) 32 rfl w.heap.size 3 i2 (.int .i64 0) 1 8 Tryd.underlying32 hj.out hx0.out hx1.out hx2.out rfl (by omega) A11 L c11 _ rfl (hI4.out.alloc (.cells #[.int .i64 (i : Int)] 3)) (w4.heap.size + 1) _ 1 1 _ rfl (reads_one w4 _ _) (one_one rfl) hm1 hm2 (show w.heap.size ≤ (w4.alloc (.cells #[.int .i64 (i : Int)] 3)).heap.size from Nat.le_trans hB4.out.size (by simp)) ?_; intro A2 c2 w3 ho3 hgq _hsq; have hB3 : Below w.heap.size w w3 := below_app (hB4.out.alloc hB4.out.size (.cells #[.int .i64 (i : Int)] 3)) hgq (hI4.out.alloc (.cells #[.int .i64 (i : Int)] 3)) (show w.heap.size ≤ (w4.alloc (.cells #[.int .i64 (i : Int)] 3)).heap.size from Nat.le_trans hB4.out.size (by simp)); have hL3 := Lib.hid (Lists.apart (hP4.out.below ((Below.refl _ w4).alloc (Nat.le_refl _) _)) (hI4.out.alloc _) (by decide) (by decide) (Nat.le_refl _) hgq); replace ho3 := Lib.hid ho3; replace hB3 := Lib.hid hB3; clear hgq _hsq))
          go_roundw
          case rel => exact ⟨i + 1, L + 1, c3, c2, A3, A2, by go_num, rfl, rfl, by omega, by omega, by rw [hs.out]; show (_ ++ [i]).length = L + 1; rw [List.length_append, HLl.out]; rfl, hB3, by rw [hs.out, List.map_append]; exact ho3.out, by rw [hs.out]; unfold Rsp.rowsAt; rw [List.map_append]; simp only [List.map_cons, List.map_nil]; rw [hb.out]; exact hL3.out⟩
          case measure => simp [intOf]; omega
      · have hge : (q : Int) ≤ (i : Int) := by omega
        obtain rfl : i = q := by omega
        have hLG : L = nG := by rw [← HLl.out]; exact hnG.out
        subst hLG
        clear IN NO YES HLl
        have KA1 := Lib.hid (KA.out wr A10 c10 HL.out)
        clear HL HO KA
        go_wp2_with fail; refine KA1.out.mono ?_; rintro e w2 ⟨rfl, hD⟩
        have HB2 := Lib.hid (below_then HB.out (hD.below _))
        clear hD HB KA1
        go_wp2_with fail
        go_ret2
        exact ⟨_, _, rfl, Lists.nil _ _ _ (Nat.zero_le _) HB2.out.size, HB2.out⟩
  | true =>
    have KA : Hid (∀ (W : World) (A2 : Option Addr) (c2 : Nat), Lists W w.heap.size w.heap.size A2 nG c2 (Rsp.rowsAt xss (Rsp.gd gs q)) → Calls Tryd.prog 43 #[.slice A2 nG c2] W fun e w' => e = .returned (.bool true) ∧ Dr W w') := fun W A2 c2 h => by rw [← ha]; exact refAlikeD_any A2 nG c2 _ W h.rows8 (by omega)
    by_cases hf : nG < n0
    · have hme := Rsp.mend_few hm hl hgl (by rw [hnp]; exact ha) (by rw [hnp]; omega)
      rw [hme.1, hme.2]
      have hf' : (nG : Int) < (n0 : Int) := by omega
      clear hx hg hl hgl hL hme ha hm hnp hRl
      replace hnG := Lib.hid hnG
      go_enter Tryd.func33, Tryd.ntmps33
      go_wp2_with fail; refine (KM.out _).mono ?_; rintro e w' ⟨rfl, rfl⟩
      go_wp2_with fail
      go_loopw [10, 11, 12] (fun v10 v11 v12 wr => ∃ (i L c10 c11 : Nat) (A10 A11 : Option Addr), v12 = .int .i64 i ∧ v10 = .slice A10 L c10 ∧ v11 = .slice A11 L c11 ∧ i ≤ q ∧ L ≤ i ∧ Hid ((Rsp.gd gs i).length = L) ∧ Hid (Below w.heap.size w wr) ∧ Hid (wr.ownsRow w.heap.size 3 1 (.slice A11 L c11) L ((Rsp.gd gs i).map NV)) ∧ Hid (Lists wr w.heap.size w.heap.size A10 L c10 (Rsp.rowsAt xss (Rsp.gd gs i)))) (fun _ _ v12 _ => q - (intOf v12).toNat)
      case atStart => exact ⟨0, 0, 0, 0, none, none, rfl, rfl, rfl, by omega, by omega, rfl, Below.refl _ _, World.ownsRow_nil _ _ _ 1, Lists.nil _ _ _ (Nat.le_refl _) (Nat.le_refl _)⟩
      case round =>
        obtain ⟨i, L, c10, c11, A10, A11, rfl, rfl, rfl, hin, hLi, HLl, HB, HO, HL⟩ := hrel
        by_cases hlt : i < q
        · have hlt' : (i : Int) < (q : Int) := by omega
          obtain ⟨ad, b, Aj, Lj, cj, hA, hb, hln0, ej, hrow⟩ := (IN.out wr HB.out).row i hlt
          obtain ⟨ag, f, hAg, hf, eg⟩ := (IN.out wr HB.out).flag i hlt
          subst hA
          subst hAg
          replace hb := Lib.hid hb
          have hln := Lib.hid hln0
          replace hrow := Lib.hid hrow
          clear hln0
          cases f with
          | false =>
            have hs := NO.out i hf
            rw [← hs] at HO HL HLl
            replace hs := Lib.hid hs
            replace hf := Lib.hid hf
            go_wp2_with fail
            go_roundw
            case rel => exact ⟨i + 1, L, c10, c11, A10, A11, by go_num, rfl, rfl, by omega, by omega, HLl, HB, HO, HL⟩
            case measure => simp [intOf]; omega
          | true =>
            have hs := Lib.hid (YES.out i hf)
            replace hf := Lib.hid hf
            have hm1 : L + 1 ≤ maxLen := by unfold maxLen; omega
            have hm2 : (L + 1) * 8 ≤ 140737488355328 := by omega
            have hc1 : L + 1 ≤ maxLen := by unfold maxLen; omega
            have hc2 : (L + 1) * 24 ≤ 140737488355328 := by omega
            have hLa := HL.out.below ((Below.refl _ wr).alloc (Nat.le_refl _) (.cells #[.slice Aj Lj cj] 27))
            have hRa := RowOK.below (hrow.out wr HB.out) HL.out.b0s HL.out.bs ((Below.refl _ wr).alloc (Nat.le_refl _) (.cells #[.slice Aj Lj cj] 27))
            obtain ⟨⟨vs, hv1, hv2, hv3⟩, hvb, hv0⟩ := hLa
            replace hv1 := Lib.hid hv1; replace hv2 := Lib.hid hv2; replace hv3 := Lib.hid hv3; replace hvb := Lib.hid hvb; replace hv0 := Lib.hid hv0; replace hRa := Lib.hid hRa
            clear HL
            go_wp2_with (first | (at_builtin; refine wpList_append_any _ rfl (.tmp 56) (.tmp 61) 55 rfl w.heap.size 27 i1 (.slice none 0 0) 1 24 Tryd.underlying55 hi_.out hy0.out hy1.out hy2.out rfl (by omega) A10 L c10 _ rfl hv1.out (wr.heap.size + 1) _ 1 1 _ rfl (reads_one wr _ _) (one_one rfl) hc1 hc2 hvb.out ?_; intro A3 c3 w4 ho4 hgq _hsq; have hB4 : Below w.heap.size w w4 := below_app (HB.out.alloc HB.out.size (.cells #[.slice Aj Lj cj] 27)) hgq hv1.out hvb.out; have hP4 := Lists.pushN hln.out hRa.out hv1.out hv2.out hv3.out hv0.out hvb.out ho4 hgq; have hI4 := Lib.hid (own_apart (HO.out.alloc _) hv1.out (by decide) hgq); replace hB4 := Lib.hid hB4; replace hP4 := Lib.hid hP4; clear hgq _hsq ho4 hv1 hv2 hv3 hvb hv0 hRa) | (at_builtin; refine wpList_append_any _ rfl (.tmp 63) (.tmp 65) 32 rfl w.heap.size 3 i2 (.int .i64 0) 1 8 Tryd.underlying32 hj.out hx0.out hx1.out hx2.out rfl (by omega) A11 L c11 _ rfl (hI4.out.alloc (.cells #[.int .i64 (i : Int)] 3)) (w4.heap.size + 1) _ 1 1 _ rfl (reads_one w4 _ _) (one_one rfl) hm1 hm2 (show w.heap.size ≤ (w4.alloc (.cells #[.int .i64 (i : Int)] 3)).heap.size from Nat.le_trans hB4.out.size (by simp)) ?_; intro A2 c2 w3 ho3 hgq _hsq; have hB3 : Below w.heap.size w w3 := below_app (hB4.out.alloc hB4.out.size (.cells #[.int .i64 (i : Int)] 3)) hgq (hI4.out.alloc (.cells #[.int .i64 (i : Int)] 3)) (show w.heap.size ≤ (w4.alloc (.cells #[.int .i64 (i : Int)] 3)).heap.size from Nat.le_trans hB4.out.size (by simp)); have hL3 := Lib.hid (Lists.apart (hP4.out.below ((Below.refl _ w4).alloc (Nat.le_refl _) _)) (hI4.out.alloc _) (by decide) (by decide) (Nat.le_refl _) hgq); replace ho3 := Lib.hid ho3; replace hB3 := Lib.hid hB3; clear hgq _hsq))
            go_roundw
            case rel => exact ⟨i + 1, L + 1, c3, c2, A3, A2, by go_num, rfl, rfl, by omega, by omega, by rw [hs.out]; show (_ ++ [i]).length = L + 1; rw [List.length_append, HLl.out]; rfl, hB3, by rw [hs.out, List.map_append]; exact ho3.out, by rw [hs.out]; unfold Rsp.rowsAt; rw [List.map_append]; simp only [List.map_cons, List.map_nil]; rw [hb.out]; exact hL3.out⟩
            case measure => simp [intOf]; omega
        · have hge : (q : Int) ≤ (i : Int) := by omega
          obtain rfl : i = q := by omega
          have hLG : L = nG := by rw [← HLl.out]; exact hnG.out
          subst hLG
          clear IN NO YES HLl
          have KA1 := Lib.hid (KA.out wr A10 c10 HL.out)
          clear HL HO KA
          go_wp2_with fail; refine KA1.out.mono ?_; rintro e w2 ⟨rfl, hD⟩
          have HB2 := Lib.hid (below_then HB.out (hD.below _))
          clear hD HB KA1
          go_wp2_with fail
          go_ret2
          exact ⟨_, _, rfl, Lists.nil _ _ _ (Nat.zero_le _) HB2.out.size, HB2.out⟩
    · have hme := Rsp.mend_yes hm hl hgl (by rw [hnp]; exact ha) (by rw [hnp]; omega)
      rw [hnp] at hme
      obtain ⟨L0, hLL⟩ := Rsp.fst_alike (n := n0) (by rw [hnp]; exact ha)
      rw [hnp] at hLL
      have hPl : (Rsp.fst n0 gs q).length = n0 := by rw [Rsp.fst_len]; omega
      have hLm : L0 ≤ 1000000 := by
        have h0 : 0 < (Rsp.fst n0 gs q).length := by omega
        have hx0 : (Rsp.fst n0 gs q)[0] < xss.length := by have := Rsp.fst_lt (List.getElem_mem h0); omega
        have hm0 : xss.getD (Rsp.fst n0 gs q)[0] [] ∈ Rsp.rowsAt xss (Rsp.fst n0 gs q) := List.mem_map.2 ⟨_, List.getElem_mem h0, rfl⟩
        rw [← hLL _ hm0]
        rw [List.getD_eq_getElem?_getD, List.getElem?_eq_getElem hx0]
        exact hL _ (List.getElem_mem hx0)
      have hPn := Rsp.fst_nodup n0 gs q
      have hPq : ∀ x ∈ Rsp.fst n0 gs q, x < q := fun x hx => Rsp.fst_lt hx
      have hll : (Rsp.rowsAt xss (Rsp.fst n0 gs q)).length = n0 := by rw [Rsp.rowsAt_len, hPl]
      have PT : Hid (((Rsp.gd gs q).map NV).take (n0 * 1) = (Rsp.fst n0 gs q).map NV) := by rw [Nat.mul_one]; unfold Rsp.fst; rw [List.map_take]; rfl
      have RT : Hid ((Rsp.rowsAt xss (Rsp.gd gs q)).take n0 = Rsp.rowsAt xss (Rsp.fst n0 gs q)) := by unfold Rsp.fst Rsp.rowsAt; rw [List.map_take]; rfl
      have hDl : (Rsp.dataV n0 (Rsp.fst n0 gs q) (Rsp.rowsAt xss (Rsp.fst n0 gs q))).length = n0 := Rsp.dataV_len
      have hDL : ∀ x ∈ Rsp.dataV n0 (Rsp.fst n0 gs q) (Rsp.rowsAt xss (Rsp.fst n0 gs q)), x.length = L0 := Rsp.dataV_all hLL (by omega)
      have hpar := Rsp.par_all hm h1 hDl hDL
      have hback : Rsp.dataV n0 (Rsp.fst n0 gs q) (Rsp.rowsAt xss (Rsp.fst n0 gs q)) = Rsp.timesP n0 n0 L0 (Rsp.backF n0 (Rsp.fst n0 gs q)) (Rsp.rowsAt xss (Rsp.fst n0 gs q)) := by unfold Rsp.dataV; rw [Rsp.head_len hLL (by omega)]
      rw [hme.1, hme.2]
      clear hx hg hl hgl hL ha hme
      generalize hD : Rsp.dataV n0 (Rsp.fst n0 gs q) (Rsp.rowsAt xss (Rsp.fst n0 gs q)) = D at *
      have hYl : (Rsp.parV p D).length = p := by rw [hpar.2, Rsp.timesP_len]
      generalize hY : Rsp.parV p D = Y at *
      have KP : Hid (∀ (W : World) (Ad : Option Addr) (cd : Nat), Rows8 W W.heap.size Ad n0 D → Calls Tryd.prog 30 #[.int .i64 p, .slice Ad n0 cd] W fun e w' => ∃ A c, e = .returned (.tuple #[.slice A p c, .int .i64 0]) ∧ Lists w' 0 W.heap.size A p c Y ∧ Below W.heap.size W w') := fun W Ad cd h => by
        have := refParity_any p Ad n0 cd D W h (by omega) (fun x hx => by rw [hDL x hx]; exact hLm)
        rw [hY, hpar.1, hYl] at this
        exact this
      have hDY : Hid ((D ++ Y).length = n0 + p) := by unfold Hid; rw [List.length_append, hDl, hYl]
      have hDl2 := Lib.hid hDl
      have hYl2 := Lib.hid hYl
      have hge : (n0 : Int) ≤ (nG : Int) := by omega
      have KI := Lib.hid (fun W => refIdentity_in n0 W (by omega))
      have KC := Lib.hid (fun W => refCauchy_in n0 p W (by omega))
      have KS := Lib.hid (fun (W : World) (Ai Ac : Option Addr) (ki kc : Nat) h1 h2 h3 h4 => refStack2 (W := W) (Ai := Ai) (Ac := Ac) (ki := ki) (kc := kc) (n := n0) (p := p) (by omega) h1 h2 h3 h4)
      have KPk : Hid (∀ (W : World) (Aw Ap : Option Addr) (kw kp : Nat), (n0 + p) * n0 ≤ kw → Reads W W.heap.size 1 Aw ((n0 + p) * n0) ((cellsTo n0 (Lin.wholeC n0) ((n0 + p) * n0)).map B8) → Reads W W.heap.size 1 Ap nG ((Rsp.gd gs q).map NV) → Calls Tryd.prog 52 #[.agg #[.int .i64 ((n0 + p : Nat) : Int), .int .i64 n0, .slice Aw ((n0 + p) * n0) kw], .slice Ap n0 kp] W (MRet W n0 n0 (cellsTo n0 (fun i j => Lin.wholeC n0 ((Rsp.fst n0 gs q).getD i 0) j) (n0 * n0)) 0)) := fun W Aw Ap kw kp h2 h1 h3 => by
        have h4 := h3.take (show n0 ≤ nG by omega)
        rw [PT.out] at h4
        exact refPick_whole (by omega) hPl (by rw [hnp]; exact hPq) W Aw Ap kw kp h2 h1 h4
      have KIv := Lib.hid (fun W As ks h1 => refInv_sub (n := n0) (p := p) (P := Rsp.fst n0 gs q) (by omega) hPl hPn (by rw [hnp]; exact hPq) W As ks h1)
      have KTm : Hid (∀ (W : World) (Am A4 : Option Addr) (k cl : Nat), n0 * n0 ≤ k → Reads W W.heap.size 1 Am (n0 * n0) ((cellsTo n0 (Rsp.backF n0 (Rsp.fst n0 gs q)) (n0 * n0)).map B8) → Rows8 W W.heap.size A4 nG (Rsp.rowsAt xss (Rsp.gd gs q)) → Calls Tryd.prog 45 #[.agg #[.int .i64 n0, .int .i64 n0, .slice Am (n0 * n0) k], .slice A4 n0 cl] W (LsRet W n0 D)) := fun W Am A4 k cl hk hr hx => by
        rw [hback]
        have h4 := hx.take (show n0 ≤ nG by omega)
        rw [RT.out] at h4
        exact refTimes_any n0 n0 L0 _ Am A4 k cl _ W (by omega) (by omega) h1 hk hLm hr h4 hLL
      unfold MRet mC at KI KC KS KPk KIv
      unfold LsRet at KTm
      simp only [cellsTo_len] at KI KC KS KPk KIv
      clear hback hpar hYl hDl hDL hll hLL hPn hPq hPl hY hD hm hRl PT RT
      rw [hnp] at KS KPk
      obtain ⟨N2, hN2⟩ : ∃ N2, n0 * n0 = N2 := ⟨_, rfl⟩
      obtain ⟨N3, hN3⟩ : ∃ N3, p * n0 = N3 := ⟨_, rfl⟩
      obtain ⟨N4, hN4⟩ : ∃ N4, q * n0 = N4 := ⟨_, rfl⟩
      rw [hN2] at KI KS KPk KIv KTm
      rw [hN3] at KC KS
      rw [hN4] at KS KPk
      generalize cellsTo n0 oneC N2 = xi at *
      generalize cellsTo n0 (cauC n0) N3 = xc at *
      generalize cellsTo n0 (Lin.wholeC n0) N4 = xw at *
      generalize cellsTo n0 (fun i j => Lin.wholeC n0 ((Rsp.fst n0 gs q).getD i 0) j) N2 = xu at *
      generalize cellsTo n0 (Rsp.backF n0 (Rsp.fst n0 gs q)) N2 = xv at *
      replace hN2 := Lib.hid hN2; replace hN3 := Lib.hid hN3; replace hN4 := Lib.hid hN4
      replace hnG := Lib.hid hnG
      have hz := (zero_of_info info_m).1
      go_enter Tryd.func33, Tryd.ntmps33
      go_wp2_with fail; refine (KM.out _).mono ?_; rintro e w' ⟨rfl, rfl⟩
      go_wp2_with fail
      go_loopw [10, 11, 12] (fun v10 v11 v12 wr => ∃ (i L c10 c11 : Nat) (A10 A11 : Option Addr), v12 = .int .i64 i ∧ v10 = .slice A10 L c10 ∧ v11 = .slice A11 L c11 ∧ i ≤ q ∧ L ≤ i ∧ Hid ((Rsp.gd gs i).length = L) ∧ Hid (Below w.heap.size w wr) ∧ Hid (wr.ownsRow w.heap.size 3 1 (.slice A11 L c11) L ((Rsp.gd gs i).map NV)) ∧ Hid (Lists wr w.heap.size w.heap.size A10 L c10 (Rsp.rowsAt xss (Rsp.gd gs i)))) (fun _ _ v12 _ => q - (intOf v12).toNat)
      case atStart => exact ⟨0, 0, 0, 0, none, none, rfl, rfl, rfl, by omega, by omega, rfl, Below.refl _ _, World.ownsRow_nil _ _ _ 1, Lists.nil _ _ _ (Nat.le_refl _) (Nat.le_refl _)⟩
      case round =>
        obtain ⟨i, L, c10, c11, A10, A11, rfl, rfl, rfl, hin, hLi, HLl, HB, HO, HL⟩ := hrel
        by_cases hlt : i < q
        · have hlt' : (i : Int) < (q : Int) := by omega
          obtain ⟨ad, b, Aj, Lj, cj, hA, hb, hln0, ej, hrow⟩ := (IN.out wr HB.out).row i hlt
          obtain ⟨ag, f, hAg, hf, eg⟩ := (IN.out wr HB.out).flag i hlt
          subst hA
          subst hAg
          replace hb := Lib.hid hb
          have hln := Lib.hid hln0
          replace hrow := Lib.hid hrow
          clear hln0
          cases f with
          | false =>
            have hs := NO.out i hf
            rw [← hs] at HO HL HLl
            replace hs := Lib.hid hs
            replace hf := Lib.hid hf
            go_wp2_with fail
            go_roundw
            case rel => exact ⟨i + 1, L, c10, c11, A10, A11, by go_num, rfl, rfl, by omega, by omega, HLl, HB, HO, HL⟩
            case measure => simp [intOf]; omega
          | true =>
            have hs := Lib.hid (YES.out i hf)
            replace hf := Lib.hid hf
            have hm1 : L + 1 ≤ maxLen := by unfold maxLen; omega
            have hm2 : (L + 1) * 8 ≤ 140737488355328 := by omega
            have hc1 : L + 1 ≤ maxLen := by unfold maxLen; omega
            have hc2 : (L + 1) * 24 ≤ 140737488355328 := by omega
            have hLa := HL.out.below ((Below.refl _ wr).alloc (Nat.le_refl _) (.cells #[.slice Aj Lj cj] 27))
            have hRa := RowOK.below (hrow.out wr HB.out) HL.out.b0s HL.out.bs ((Below.refl _ wr).alloc (Nat.le_refl _) (.cells #[.slice Aj Lj cj] 27))
            obtain ⟨⟨vs, hv1, hv2, hv3⟩, hvb, hv0⟩ := hLa
            replace hv1 := Lib.hid hv1; replace hv2 := Lib.hid hv2; replace hv3 := Lib.hid hv3; replace hvb := Lib.hid hvb; replace hv0 := Lib.hid hv0; replace hRa := Lib.hid hRa
            clear HL
            go_wp2_with (first | (at_builtin; refine wpList_append_any _ rfl (.tmp 56) (.tmp 61) 55 rfl w.heap.size 27 i1 (.slice none 0 0) 1 24 Tryd.underlying55 hi_.out hy0.out hy1.out hy2.out rfl (by omega) A10 L c10 _ rfl hv1.out (wr.heap.size + 1) _ 1 1 _ rfl (reads_one wr _ _) (one_one rfl) hc1 hc2 hvb.out ?_; intro A3 c3 w4 ho4 hgq _hsq; have hB4 : Below w.heap.size w w4 := below_app (HB.out.alloc HB.out.size (.cells #[.slice Aj Lj cj] 27)) hgq hv1.out hvb.out; have hP4 := Lists.pushN hln.out hRa.out hv1.out hv2.out hv3.out hv0.out hvb.out ho4 hgq; have hI4 := Lib.hid (own_apart (HO.out.alloc _) hv1.out (by decide) hgq); replace hB4 := Lib.hid hB4; replace hP4 := Lib.hid hP4; clear hgq _hsq ho4 hv1 hv2 hv3 hvb hv0 hRa) | (at_builtin; refine wpList_append_any _ rfl (.tmp 63) (.tmp 65) 32 rfl w.heap.size 3 i2 (.int .i64 0) 1 8 Tryd.underlying32 hj.out hx0.out hx1.out hx2.out rfl (by omega) A11 L c11 _ rfl (hI4.out.alloc (.cells #[.int .i64 (i : Int)] 3)) (w4.heap.size + 1) _ 1 1 _ rfl (reads_one w4 _ _) (one_one rfl) hm1 hm2 (show w.heap.size ≤ (w4.alloc (.cells #[.int .i64 (i : Int)] 3)).heap.size from Nat.le_trans hB4.out.size (by simp)) ?_; intro A2 c2 w3 ho3 hgq _hsq; have hB3 : Below w.heap.size w w3 := below_app (hB4.out.alloc hB4.out.size (.cells #[.int .i64 (i : Int)] 3)) hgq (hI4.out.alloc (.cells #[.int .i64 (i : Int)] 3)) (show w.heap.size ≤ (w4.alloc (.cells #[.int .i64 (i : Int)] 3)).heap.size from Nat.le_trans hB4.out.size (by simp)); have hL3 := Lib.hid (Lists.apart (hP4.out.below ((Below.refl _ w4).alloc (Nat.le_refl _) _)) (hI4.out.alloc _) (by decide) (by decide) (Nat.le_refl _) hgq); replace ho3 := Lib.hid ho3; replace hB3 := Lib.hid hB3; clear hgq _hsq))
            go_roundw
            case rel => exact ⟨i + 1, L + 1, c3, c2, A3, A2, by go_num, rfl, rfl, by omega, by omega, by rw [hs.out]; show (_ ++ [i]).length = L + 1; rw [List.length_append, HLl.out]; rfl, hB3, by rw [hs.out, List.map_append]; exact ho3.out, by rw [hs.out]; unfold Rsp.rowsAt; rw [List.map_append]; simp only [List.map_cons, List.map_nil]; rw [hb.out]; exact hL3.out⟩
            case measure => simp [intOf]; omega
        · have hge : (q : Int) ≤ (i : Int) := by omega
          obtain rfl : i = q := by omega
          have hLG : L = nG := by rw [← HLl.out]; exact hnG.out
          subst hLG
          clear IN NO YES HLl
          have KA1 := Lib.hid (KA.out wr A10 c10 HL.out)
          replace hnp := Lib.hid hnp
          clear KA
          go_wp2_with fail; refine KA1.out.mono ?_; rintro e w2 ⟨rfl, hD⟩
          have HB2 := Lib.hid (below_then HB.out (hD.below _))
          have HO2 := Lib.hid (own_belowL HO.out (hD.below _))
          have HL2 := Lib.hid (HL.out.below (hD.below _))
          clear hD HB HO HL KA1
          have hcap := (own_cap HO2.out).1
          have hcapL := HL2.out.cap.1
          have hcap2 : (n0 : Int) ≤ (c11 : Int) := by omega
          have hcap3 : (n0 : Int) ≤ (c10 : Int) := by omega
          have hn00 : (0 : Int) ≤ (n0 : Int) := by omega
          go_wp2_with fail
          refine (KI.out _).mono ?_; rintro e w11 ⟨Ai, ki, rfl, hoi, hBi⟩
          have hpi := mret_parts hoi
          have HB3 := Lib.hid (below_alloc (below_then HB2.out hBi) (.cells #[.int .i64 (n0 : Nat), .int .i64 (n0 : Nat), .slice Ai N2 ki] 75))
          have HO3 := Lib.hid ((own_belowL HO2.out hBi).alloc (.cells #[.int .i64 (n0 : Nat), .int .i64 (n0 : Nat), .slice Ai N2 ki] 75))
          have HL3 := Lib.hid ((HL2.out.below hBi).below (below_alloc (Below.refl _ w11) (.cells #[.int .i64 (n0 : Nat), .int .i64 (n0 : Nat), .slice Ai N2 ki] 75)))
          have Mi := Lib.hid (MB.new (r := (n0 : Nat)) (c := (n0 : Nat)) hpi.1 hpi.2)
          clear hpi hoi hBi HB2 HO2 HL2 KI
          obtain ⟨qi0, qi1, qi2⟩ := Mi.out.cells
          go_wp2_with fail
          generalize w11.alloc (.cells #[.int .i64 (n0 : Nat), .int .i64 (n0 : Nat), .slice Ai N2 ki] 75) = w11a at *
          generalize w11.heap.size = gi at *
          refine (KC.out _).mono ?_; rintro e w12 ⟨Ac, kc, rfl, hoc, hBc⟩
          have hpc := mret_parts hoc
          clear qi0 qi1 qi2
          replace Mi := Lib.hid ((Mi.out.below hBc).alloc (.cells #[.int .i64 (p : Nat), .int .i64 (n0 : Nat), .slice Ac N3 kc] 75))
          have HB4 := Lib.hid (below_alloc (below_then HB3.out hBc) (.cells #[.int .i64 (p : Nat), .int .i64 (n0 : Nat), .slice Ac N3 kc] 75))
          have HO4 := Lib.hid ((own_belowL HO3.out hBc).alloc (.cells #[.int .i64 (p : Nat), .int .i64 (n0 : Nat), .slice Ac N3 kc] 75))
          have HL4 := Lib.hid ((HL3.out.below hBc).below (below_alloc (Below.refl _ w12) (.cells #[.int .i64 (p : Nat), .int .i64 (n0 : Nat), .slice Ac N3 kc] 75)))
          have Mc := Lib.hid (MB.new (r := (p : Nat)) (c := (n0 : Nat)) hpc.1 hpc.2)
          clear hpc hoc hBc HB3 HO3 HL3 KC
          obtain ⟨qi0, qi1, qi2⟩ := Mi.out.cells
          obtain ⟨qc0, qc1, qc2⟩ := Mc.out.cells
          go_wp2_with fail
          rw [show w12.heap.size + 1 = (w12.alloc (.cells #[.int .i64 (p : Nat), .int .i64 (n0 : Nat), .slice Ac N3 kc] 75)).heap.size by simp]
          generalize w12.alloc (.cells #[.int .i64 (p : Nat), .int .i64 (n0 : Nat), .slice Ac N3 kc] 75) = w12a at *
          generalize w12.heap.size = gc at *
          refine (KS.out _ _ _ _ _ Mi.out.rd Mc.out.rd Mi.out.cap Mc.out.cap).mono ?_; rintro e w13 ⟨As, ks, rfl, hos, hBs⟩
          have hps := mret_parts hos
          clear qi0 qi1 qi2 qc0 qc1 qc2 Mi Mc
          have HB5 := Lib.hid (below_alloc (below_then HB4.out hBs) (.cells #[.int .i64 (i : Nat), .int .i64 (n0 : Nat), .slice As N4 ks] 75))
          have HO5 := Lib.hid ((own_belowL HO4.out hBs).alloc (.cells #[.int .i64 (i : Nat), .int .i64 (n0 : Nat), .slice As N4 ks] 75))
          have HL5 := Lib.hid ((HL4.out.below hBs).below (below_alloc (Below.refl _ w13) (.cells #[.int .i64 (i : Nat), .int .i64 (n0 : Nat), .slice As N4 ks] 75)))
          have Ms := Lib.hid (MB.new (r := (i : Nat)) (c := (n0 : Nat)) hps.1 hps.2)
          clear hps hos hBs HB4 HO4 HL4 KS
          obtain ⟨qs0, qs1, qs2⟩ := Ms.out.cells
          go_wp2_with fail
          generalize w13.alloc (.cells #[.int .i64 (i : Nat), .int .i64 (n0 : Nat), .slice As N4 ks] 75) = w13a at *
          generalize w13.heap.size = gs9 at *
          have KPk1 := Lib.hid (KPk.out w13a.drew As A11 ks c11 Ms.out.cap Ms.out.rd (Reads.of_own HO5.out))
          have KPk2 := Lib.hid (KPk.out (w13a.alloc (.cells #[.int .i64 0, .int .i64 0, .slice none 0 0] 75)).drew As A11 ks c11 Ms.out.cap (Ms.out.alloc (.cells #[.int .i64 0, .int .i64 0, .slice none 0 0] 75)).rd (Reads.of_own (HO5.out.alloc (.cells #[.int .i64 0, .int .i64 0, .slice none 0 0] 75))))
          have HZ0 := Lib.hid (Blk.new w13a 75 #[.int .i64 0, .int .i64 0, .slice none 0 0])
          have CE : Hid (∀ W, Below w13a.heap.size w13a W → W.cell? ⟨gs9, 0, none⟩ = some (.int .i64 (i : Nat)) ∧ W.cell? ⟨gs9, 1, none⟩ = some (.int .i64 (n0 : Nat)) ∧ W.cell? ⟨gs9, 2, none⟩ = some (.slice As N4 ks)) := fun W hW => (Ms.out.below hW).cells
          clear KPk
          refine region_E 11 (fun W => W.cell? ⟨gs9, 0, none⟩ = some (.int .i64 (i : Nat)) ∧ W.cell? ⟨gs9, 1, none⟩ = some (.int .i64 (n0 : Nat)) ∧ W.cell? ⟨gs9, 2, none⟩ = some (.slice As N4 ks)) (by kernel_rfl) ⟨qs0, qs1, qs2⟩ (fun hHeld => ?_)
          refine took 0 (v := ?_) rfl (by kernel_rfl) (by kernel_rfl) (by kernel_rfl) (by kernel_rfl) (fun _ _ _ h => h) (by rfl) (by assumption) ?_ ?_
          rotate_left
          · (intro W hSw; (try dsimp only at hSw); go_simp; first | done | with_reducible rfl)
          try simp only [Act.put, List.setIfInBounds_toArray, List.set_cons_zero, List.set_cons_succ]
          refine took 1 (v := ?_) rfl (by kernel_rfl) (by kernel_rfl) (by kernel_rfl) (by kernel_rfl) (fun _ _ _ h => h) (by rfl) (by assumption) ?_ ?_
          rotate_left
          · (intro W hSw; (try dsimp only at hSw); go_simp; first | done | with_reducible rfl)
          try simp only [Act.put, List.setIfInBounds_toArray, List.set_cons_zero, List.set_cons_succ]
          refine took 2 (v := ?_) rfl (by kernel_rfl) (by kernel_rfl) (by kernel_rfl) (by kernel_rfl) (fun _ _ _ h => h) (by rfl) (by assumption) ?_ ?_
          rotate_left
          · (intro W hSw; (try dsimp only at hSw); go_simp; first | done | with_reducible rfl)
          try simp only [Act.put, List.setIfInBounds_toArray, List.set_cons_zero, List.set_cons_succ]
          refine took 3 (v := ?_) rfl (by kernel_rfl) (by kernel_rfl) (by kernel_rfl) (by kernel_rfl) (fun _ _ _ h => h) (by rfl) (by assumption) ?_ ?_
          rotate_left
          · (intro W hSw; (try dsimp only at hSw); go_simp; first | done | with_reducible rfl)
          try simp only [Act.put, List.setIfInBounds_toArray, List.set_cons_zero, List.set_cons_succ]
          refine forked 4 8 rfl rfl (by kernel_rfl) (by rfl) (by rfl) (fun K hK => ?_) (fun K hK => ?_)
          · go_simp
            (go_at_call 52; ((with_reducible refine KPk1.out.mono ?_); rintro e w14 ⟨Au, ku, rfl, hou, hBu⟩); have HBu := Lib.hid (below_of_drew hBu); replace hou := Lib.hid hou; clear hBu)
            refine hK.out _ _ (CE.out _ HBu.out) (fun hHeld => ?_)
            clear hK K
            try simp only [Act.put, List.setIfInBounds_toArray, List.set_cons_zero, List.set_cons_succ]
            refine took 5 (v := ?_) rfl (by kernel_rfl) (by kernel_rfl) (by kernel_rfl) (by kernel_rfl) (fun _ _ _ h => h) (by rfl) (by assumption) ?_ ?_
            rotate_left
            · (intro W hSw; (try dsimp only at hSw); go_simp; first | done | with_reducible rfl)
            try simp only [Act.put, List.setIfInBounds_toArray, List.set_cons_zero, List.set_cons_succ]
            refine took 6 (v := ?_) rfl (by kernel_rfl) (by kernel_rfl) (by kernel_rfl) (by kernel_rfl) (fun _ _ _ h => h) (by rfl) (by assumption) ?_ ?_
            rotate_left
            · (intro W hSw; (try dsimp only at hSw); go_simp; first | done | with_reducible rfl)
            try simp only [Act.put, List.setIfInBounds_toArray, List.set_cons_zero, List.set_cons_succ]
            refine took 7 (v := ?_) rfl (by kernel_rfl) (by kernel_rfl) (by kernel_rfl) (by kernel_rfl) (fun _ _ _ h => h) (by rfl) (by assumption) ?_ ?_
            rotate_left
            · (intro W hSw; (try dsimp only at hSw); go_simp; first | done | with_reducible rfl)
            try simp only [Act.put, List.setIfInBounds_toArray, List.set_cons_zero, List.set_cons_succ]
            refine carried 8 rfl (by kernel_rfl) (by rfl) (fun K hK => ?_)
            go_simp
            skip
            refine hK.out _ _ ((CE.out _ (HBu.out.alloc HBu.out.size _))) (fun hHeld => ?_)
            clear hK K
            try simp only [Act.put, List.setIfInBounds_toArray, List.set_cons_zero, List.set_cons_succ]
            refine carried 9 rfl (by kernel_rfl) (by rfl) (fun K hK => ?_)
            go_simp
            skip
            refine hK.out _ _ ((CE.out _ (HBu.out.alloc HBu.out.size _))) (fun hHeld => ?_)
            clear hK K
            try simp only [Act.put, List.setIfInBounds_toArray, List.set_cons_zero, List.set_cons_succ]
            refine took 10 (v := ?_) rfl (by kernel_rfl) (by kernel_rfl) (by kernel_rfl) (by kernel_rfl) (fun _ _ _ h => h) (by rfl) (by assumption) ?_ ?_
            rotate_left
            · (intro W hSw; (try dsimp only at hSw); go_simp; first | done | with_reducible rfl)
            try simp only [Act.put, List.setIfInBounds_toArray, List.set_cons_zero, List.set_cons_succ]
            refine allDone (by kernel_rfl) ?_ _
            clear hHeld qs0 qs1 qs2
            have HB6 := Lib.hid (below_alloc (below_then HB5.out HBu.out) (.cells #[.int .i64 (n0 : Nat), .int .i64 (n0 : Nat), .slice Au N2 ku] 75))
            have HL6 := Lib.hid ((HL5.out.below HBu.out).below (below_alloc (Below.refl _ w14) (.cells #[.int .i64 (n0 : Nat), .int .i64 (n0 : Nat), .slice Au N2 ku] 75)))
            have hpu := mret_parts hou.out
            have Mu := Lib.hid (MB.new (r := (n0 : Nat)) (c := (n0 : Nat)) hpu.1 hpu.2)
            clear hpu hou HBu HB5 HO5 HL5 Ms CE KPk1 KPk2
            generalize w14.alloc (.cells #[.int .i64 (n0 : Nat), .int .i64 (n0 : Nat), .slice Au N2 ku] 75) = w15 at *
            generalize w14.heap.size = gu at *
            obtain ⟨qu0, qu1, qu2⟩ := Mu.out.cells
            go_wp2_with fail
            refine (KIv.out _ _ _ Mu.out.rd).mono ?_; rintro e w16 ⟨Av, kv, rfl, hov, hBv⟩
            have hpv := mret_parts hov
            have HBv := Lib.hid (below_alloc (below_then HB6.out hBv) (.cells #[.int .i64 (n0 : Nat), .int .i64 (n0 : Nat), .slice Av N2 kv] 75))
            have HLv := Lib.hid ((HL6.out.below hBv).below (below_alloc (Below.refl _ w16) (.cells #[.int .i64 (n0 : Nat), .int .i64 (n0 : Nat), .slice Av N2 kv] 75)))
            have Mv := Lib.hid (MB.new (r := (n0 : Nat)) (c := (n0 : Nat)) hpv.1 hpv.2)
            clear hpv hov hBv HB6 HL6 qu0 qu1 qu2 Mu KIv
            obtain ⟨qv0, qv1, qv2⟩ := Mv.out.cells
            go_wp2_with fail
            generalize w16.alloc (.cells #[.int .i64 (n0 : Nat), .int .i64 (n0 : Nat), .slice Av N2 kv] 75) = w17 at *
            generalize w16.heap.size = gv at *
            have KTm1 := Lib.hid (KTm.out w17.drew Av A10 kv c10 Mv.out.cap Mv.out.rd HLv.out.drew.rows8)
            have CV : Hid (∀ W, Below w17.heap.size w17 W → W.cell? ⟨gv, 0, none⟩ = some (.int .i64 (n0 : Nat)) ∧ W.cell? ⟨gv, 1, none⟩ = some (.int .i64 (n0 : Nat)) ∧ W.cell? ⟨gv, 2, none⟩ = some (.slice Av N2 kv)) := fun W hW => (Mv.out.below hW).cells
            refine region_E 6 (fun W => W.cell? ⟨gv, 0, none⟩ = some (.int .i64 (n0 : Nat)) ∧ W.cell? ⟨gv, 1, none⟩ = some (.int .i64 (n0 : Nat)) ∧ W.cell? ⟨gv, 2, none⟩ = some (.slice Av N2 kv)) (by kernel_rfl) ⟨qv0, qv1, qv2⟩ (fun hHeld => ?_)
            refine took 0 (v := ?_) rfl (by kernel_rfl) (by kernel_rfl) (by kernel_rfl) (by kernel_rfl) (fun _ _ _ h => h) (by rfl) (by assumption) ?_ ?_
            rotate_left
            · (intro W hSw; (try dsimp only at hSw); go_simp; first | done | with_reducible rfl)
            try simp only [Act.put, List.setIfInBounds_toArray, List.set_cons_zero, List.set_cons_succ]
            refine took 1 (v := ?_) rfl (by kernel_rfl) (by kernel_rfl) (by kernel_rfl) (by kernel_rfl) (fun _ _ _ h => h) (by rfl) (by assumption) ?_ ?_
            rotate_left
            · (intro W hSw; (try dsimp only at hSw); go_simp; first | done | with_reducible rfl)
            try simp only [Act.put, List.setIfInBounds_toArray, List.set_cons_zero, List.set_cons_succ]
            refine took 2 (v := ?_) rfl (by kernel_rfl) (by kernel_rfl) (by kernel_rfl) (by kernel_rfl) (fun _ _ _ h => h) (by rfl) (by assumption) ?_ ?_
            rotate_left
            · (intro W hSw; (try dsimp only at hSw); go_simp; first | done | with_reducible rfl)
            try simp only [Act.put, List.setIfInBounds_toArray, List.set_cons_zero, List.set_cons_succ]
            refine took 3 (v := ?_) rfl (by kernel_rfl) (by kernel_rfl) (by kernel_rfl) (by kernel_rfl) (fun _ _ _ h => h) (by rfl) (by assumption) ?_ ?_
            rotate_left
            · (intro W hSw; (try dsimp only at hSw); go_simp; first | done | with_reducible rfl)
            try simp only [Act.put, List.setIfInBounds_toArray, List.set_cons_zero, List.set_cons_succ]
            refine carried 4 rfl (by kernel_rfl) (by rfl) (fun K hK => ?_)
            go_simp
            (go_at_call 45; ((with_reducible refine KTm1.out.mono ?_); rintro e w18 ⟨Ad, cd, rfl, hlt5, hBt⟩); have HBt := Lib.hid (below_of_drew hBt); replace hlt5 := Lib.hid hlt5; clear hBt)
            refine hK.out _ _ ((CV.out _ HBt.out)) (fun hHeld => ?_)
            clear hK K
            try simp only [Act.put, List.setIfInBounds_toArray, List.set_cons_zero, List.set_cons_succ]
            refine took 5 (v := ?_) rfl (by kernel_rfl) (by kernel_rfl) (by kernel_rfl) (by kernel_rfl) (fun _ _ _ h => h) (by rfl) (by assumption) ?_ ?_
            rotate_left
            · (intro W hSw; (try dsimp only at hSw); go_simp; first | done | with_reducible rfl)
            try simp only [Act.put, List.setIfInBounds_toArray, List.set_cons_zero, List.set_cons_succ]
            refine allDone (by kernel_rfl) ?_ _
            clear hHeld qv0 qv1 qv2
            have HB7 := Lib.hid (below_then HBv.out HBt.out)
            have HD7 : Hid (Lists w18 0 w.heap.size Ad n0 cd D) := hlt5.out.older (Nat.le_refl _) (Nat.zero_le _) HBv.out.size
            clear HBv HLv Mv CV KTm1 HBt hlt5
            go_wp2_with fail
            refine (KP.out _ _ _ HD7.out.rows8).mono ?_; rintro e w19 ⟨A9, c9, rfl, hl9, hB9⟩
            have HB9 := Lib.hid (below_then HB7.out hB9)
            obtain ⟨⟨vd, hd1, hd2, hd3⟩, hdb, hd0⟩ := HD7.out.below hB9
            obtain ⟨⟨vy, hy1', hy2', hy3'⟩, hyb, hy0'⟩ := hl9.older (b0' := 0) (base' := w.heap.size) (Nat.le_refl _) (Nat.zero_le _) HB7.out.size
            have hyl : vy.length = p := by have := hy1'.1; omega
            have hyo := Lib.hid (rows_one (hyl.trans hy2'.symm) hy3')
            have hcp1 : n0 + p ≤ maxLen := by unfold maxLen; omega
            have hcp2 : (n0 + p) * 24 ≤ 140737488355328 := by omega
            replace hd1 := Lib.hid hd1; replace hd2 := Lib.hid hd2; replace hd3 := Lib.hid hd3; replace hdb := Lib.hid hdb; replace hd0 := Lib.hid hd0; replace hy1' := Lib.hid hy1'; replace hy2' := Lib.hid hy2'; replace hy3' := Lib.hid hy3'; replace hyb := Lib.hid hyb; replace hy0' := Lib.hid hy0'; replace hyl := Lib.hid hyl
            clear hl9 hB9 HB7 HD7
            go_wp2_with (at_builtin; refine wpList_append_any _ rfl (.tmp 116) (.tmp 117) 55 rfl w.heap.size 27 i1 (.slice none 0 0) 1 24 Tryd.underlying55 hi_.out hy0.out hy1.out hy2.out rfl (by omega) Ad n0 cd _ rfl hd1.out w19.heap.size A9 p c9 _ rfl (Reads.of_own hy1'.out) hyo.out hcp1 hcp2 hdb.out ?_; intro A3 c3 w4 ho4 hgq _hsq; have hB4 : Below w.heap.size w w4 := below_app HB9.out hgq hd1.out hdb.out; have hC4 := Lists.cat hd1.out hd2.out hd3.out hd0.out hdb.out hyl.out hy2'.out hy3'.out ho4 hgq; replace hB4 := Lib.hid hB4; replace hC4 := Lib.hid hC4; clear ho4 hgq _hsq)
            go_ret2
            refine ⟨A3, c3, ?_⟩
            rw [hDY.out]
            exact ⟨rfl, hC4.out, hB4.out⟩
          · go_simp
            refine hK.out _ _ (CE.out _ ((Below.refl _ w13a).alloc (Nat.le_refl _) _).drew) (fun hHeld => ?_)
            clear hK K
            try simp only [Act.put, List.setIfInBounds_toArray, List.set_cons_zero, List.set_cons_succ]
            refine carried 4 rfl (by kernel_rfl) (by rfl) (fun K hK => ?_)
            go_simp
            (go_at_call 52; ((with_reducible refine KPk2.out.mono ?_); rintro e w14 ⟨Au, ku, rfl, hou, hBu⟩); have hBu2 := below_of_drew hBu; have HBu := Lib.hid (below_of_alloc hBu2); replace hou := Lib.hid hou; have HZ := Lib.hid (HZ0.out.below hBu2 HZ0.out.lt); clear hBu hBu2; have hzl := HZ.out.lt; have hz0' := HZ.out.cell 0; have hz1' := HZ.out.cell 1; have hz2' := HZ.out.cell 2; have hzf0 := HZ.out.frozen 0; have hzf1 := HZ.out.frozen 1; have hzf2 := HZ.out.frozen 2)
            refine hK.out _ _ ((CE.out _ HBu.out)) (fun hHeld => ?_)
            clear hK K
            try simp only [Act.put, List.setIfInBounds_toArray, List.set_cons_zero, List.set_cons_succ]
            refine took 5 (v := ?_) rfl (by kernel_rfl) (by kernel_rfl) (by kernel_rfl) (by kernel_rfl) (fun _ _ _ h => h) (by rfl) (by assumption) ?_ ?_
            rotate_left
            · (intro W hSw; (try dsimp only at hSw); go_simp; first | done | with_reducible rfl)
            try simp only [Act.put, List.setIfInBounds_toArray, List.set_cons_zero, List.set_cons_succ]
            refine took 6 (v := ?_) rfl (by kernel_rfl) (by kernel_rfl) (by kernel_rfl) (by kernel_rfl) (fun _ _ _ h => h) (by rfl) (by assumption) ?_ ?_
            rotate_left
            · (intro W hSw; (try dsimp only at hSw); go_simp; first | done | with_reducible rfl)
            try simp only [Act.put, List.setIfInBounds_toArray, List.set_cons_zero, List.set_cons_succ]
            refine took 7 (v := ?_) rfl (by kernel_rfl) (by kernel_rfl) (by kernel_rfl) (by kernel_rfl) (fun _ _ _ h => h) (by rfl) (by assumption) ?_ ?_
            rotate_left
            · (intro W hSw; (try dsimp only at hSw); go_simp; first | done | with_reducible rfl)
            try simp only [Act.put, List.setIfInBounds_toArray, List.set_cons_zero, List.set_cons_succ]
            have HB3 := Lib.hid (((HBu.out.setCell (p := ⟨w13a.heap.size, 0, none⟩) (Nat.le_refl _) (.int .i64 (n0 : Nat))).setCell (p := ⟨w13a.heap.size, 1, none⟩) (Nat.le_refl _) (.int .i64 (n0 : Nat))).setCell (p := ⟨w13a.heap.size, 2, none⟩) (Nat.le_refl _) (.slice Au N2 ku))
            refine carried 9 rfl (by kernel_rfl) (by rfl) (fun K hK => ?_)
            go_simp
            skip
            refine hK.out _ _ ((CE.out _ HB3.out)) (fun hHeld => ?_)
            clear hK K
            try simp only [Act.put, List.setIfInBounds_toArray, List.set_cons_zero, List.set_cons_succ]
            refine took 10 (v := ?_) rfl (by kernel_rfl) (by kernel_rfl) (by kernel_rfl) (by kernel_rfl) (fun _ _ _ h => h) (by rfl) (by assumption) ?_ ?_
            rotate_left
            · (intro W hSw; (try dsimp only at hSw); go_simp; first | done | with_reducible rfl)
            try simp only [Act.put, List.setIfInBounds_toArray, List.set_cons_zero, List.set_cons_succ]
            refine allDone (by kernel_rfl) ?_ _
            clear hHeld qs0 qs1 qs2
            have hz1 := HZ.out.set_ 0 (.int .i64 (n0 : Nat))
            have ho1 := own_setM (j := 0) hou.out HZ.out (.int .i64 (n0 : Nat))
            have hz2 := hz1.set_ 1 (.int .i64 (n0 : Nat))
            have ho2 := own_setM (j := 1) ho1 hz1 (.int .i64 (n0 : Nat))
            have hz3 := hz2.set_ 2 (.slice Au N2 ku)
            have ho3 := own_setM (j := 2) ho2 hz2 (.slice Au N2 ku)
            simp only [List.setIfInBounds_toArray, List.set_cons_zero, List.set_cons_succ] at hz3
            have HB6 := Lib.hid (below_then HB5.out HB3.out)
            have HL6 := Lib.hid (HL5.out.below HB3.out)
            generalize ((w14.setCell ⟨w13a.heap.size, 0, none⟩ (.int .i64 (n0 : Nat))).setCell ⟨w13a.heap.size, 1, none⟩ (.int .i64 (n0 : Nat))).setCell ⟨w13a.heap.size, 2, none⟩ (.slice Au N2 ku) = w15 at *
            have Mu : Hid (MB w15 w13a.heap.size (n0 : Nat) (n0 : Nat) Au N2 ku xu) := ⟨hz3, Reads.of_own ho3, (own_cap ho3).1⟩
            clear hz1 hz2 hz3 ho1 ho2 ho3 hou HBu HB5 HO5 HL5 Ms CE KPk1 KPk2 HZ hzl hz0' hz1' hz2' hzf0 hzf1 hzf2 HB3
            generalize w13a.heap.size = gu at *
            obtain ⟨qu0, qu1, qu2⟩ := Mu.out.cells
            go_wp2_with fail
            refine (KIv.out _ _ _ Mu.out.rd).mono ?_; rintro e w16 ⟨Av, kv, rfl, hov, hBv⟩
            have hpv := mret_parts hov
            have HBv := Lib.hid (below_alloc (below_then HB6.out hBv) (.cells #[.int .i64 (n0 : Nat), .int .i64 (n0 : Nat), .slice Av N2 kv] 75))
            have HLv := Lib.hid ((HL6.out.below hBv).below (below_alloc (Below.refl _ w16) (.cells #[.int .i64 (n0 : Nat), .int .i64 (n0 : Nat), .slice Av N2 kv] 75)))
            have Mv := Lib.hid (MB.new (r := (n0 : Nat)) (c := (n0 : Nat)) hpv.1 hpv.2)
            clear hpv hov hBv HB6 HL6 qu0 qu1 qu2 Mu KIv
            obtain ⟨qv0, qv1, qv2⟩ := Mv.out.cells
            go_wp2_with fail
            generalize w16.alloc (.cells #[.int .i64 (n0 : Nat), .int .i64 (n0 : Nat), .slice Av N2 kv] 75) = w17 at *
            generalize w16.heap.size = gv at *
            have KTm1 := Lib.hid (KTm.out w17.drew Av A10 kv c10 Mv.out.cap Mv.out.rd HLv.out.drew.rows8)
            have CV : Hid (∀ W, Below w17.heap.size w17 W → W.cell? ⟨gv, 0, none⟩ = some (.int .i64 (n0 : Nat)) ∧ W.cell? ⟨gv, 1, none⟩ = some (.int .i64 (n0 : Nat)) ∧ W.cell? ⟨gv, 2, none⟩ = some (.slice Av N2 kv)) := fun W hW => (Mv.out.below hW).cells
            refine region_E 6 (fun W => W.cell? ⟨gv, 0, none⟩ = some (.int .i64 (n0 : Nat)) ∧ W.cell? ⟨gv, 1, none⟩ = some (.int .i64 (n0 : Nat)) ∧ W.cell? ⟨gv, 2, none⟩ = some (.slice Av N2 kv)) (by kernel_rfl) ⟨qv0, qv1, qv2⟩ (fun hHeld => ?_)
            refine took 0 (v := ?_) rfl (by kernel_rfl) (by kernel_rfl) (by kernel_rfl) (by kernel_rfl) (fun _ _ _ h => h) (by rfl) (by assumption) ?_ ?_
            rotate_left
            · (intro W hSw; (try dsimp only at hSw); go_simp; first | done | with_reducible rfl)
            try simp only [Act.put, List.setIfInBounds_toArray, List.set_cons_zero, List.set_cons_succ]
            refine took 1 (v := ?_) rfl (by kernel_rfl) (by kernel_rfl) (by kernel_rfl) (by kernel_rfl) (fun _ _ _ h => h) (by rfl) (by assumption) ?_ ?_
            rotate_left
            · (intro W hSw; (try dsimp only at hSw); go_simp; first | done | with_reducible rfl)
            try simp only [Act.put, List.setIfInBounds_toArray, List.set_cons_zero, List.set_cons_succ]
            refine took 2 (v := ?_) rfl (by kernel_rfl) (by kernel_rfl) (by kernel_rfl) (by kernel_rfl) (fun _ _ _ h => h) (by rfl) (by assumption) ?_ ?_
            rotate_left
            · (intro W hSw; (try dsimp only at hSw); go_simp; first | done | with_reducible rfl)
            try simp only [Act.put, List.setIfInBounds_toArray, List.set_cons_zero, List.set_cons_succ]
            refine took 3 (v := ?_) rfl (by kernel_rfl) (by kernel_rfl) (by kernel_rfl) (by kernel_rfl) (fun _ _ _ h => h) (by rfl) (by assumption) ?_ ?_
            rotate_left
            · (intro W hSw; (try dsimp only at hSw); go_simp; first | done | with_reducible rfl)
            try simp only [Act.put, List.setIfInBounds_toArray, List.set_cons_zero, List.set_cons_succ]
            refine carried 4 rfl (by kernel_rfl) (by rfl) (fun K hK => ?_)
            go_simp
            (go_at_call 45; ((with_reducible refine KTm1.out.mono ?_); rintro e w18 ⟨Ad, cd, rfl, hlt5, hBt⟩); have HBt := Lib.hid (below_of_drew hBt); replace hlt5 := Lib.hid hlt5; clear hBt)
            refine hK.out _ _ ((CV.out _ HBt.out)) (fun hHeld => ?_)
            clear hK K
            try simp only [Act.put, List.setIfInBounds_toArray, List.set_cons_zero, List.set_cons_succ]
            refine took 5 (v := ?_) rfl (by kernel_rfl) (by kernel_rfl) (by kernel_rfl) (by kernel_rfl) (fun _ _ _ h => h) (by rfl) (by assumption) ?_ ?_
            rotate_left
            · (intro W hSw; (try dsimp only at hSw); go_simp; first | done | with_reducible rfl)
            try simp only [Act.put, List.setIfInBounds_toArray, List.set_cons_zero, List.set_cons_succ]
            refine allDone (by kernel_rfl) ?_ _
            clear hHeld qv0 qv1 qv2
            have HB7 := Lib.hid (below_then HBv.out HBt.out)
            have HD7 : Hid (Lists w18 0 w.heap.size Ad n0 cd D) := hlt5.out.older (Nat.le_refl _) (Nat.zero_le _) HBv.out.size
            clear HBv HLv Mv CV KTm1 HBt hlt5
            go_wp2_with fail
            refine (KP.out _ _ _ HD7.out.rows8).mono ?_; rintro e w19 ⟨A9, c9, rfl, hl9, hB9⟩
            have HB9 := Lib.hid (below_then HB7.out hB9)
            obtain ⟨⟨vd, hd1, hd2, hd3⟩, hdb, hd0⟩ := HD7.out.below hB9
            obtain ⟨⟨vy, hy1', hy2', hy3'⟩, hyb, hy0'⟩ := hl9.older (b0' := 0) (base' := w.heap.size) (Nat.le_refl _) (Nat.zero_le _) HB7.out.size
            have hyl : vy.length = p := by have := hy1'.1; omega
            have hyo := Lib.hid (rows_one (hyl.trans hy2'.symm) hy3')
            have hcp1 : n0 + p ≤ maxLen := by unfold maxLen; omega
            have hcp2 : (n0 + p) * 24 ≤ 140737488355328 := by omega
            replace hd1 := Lib.hid hd1; replace hd2 := Lib.hid hd2; replace hd3 := Lib.hid hd3; replace hdb := Lib.hid hdb; replace hd0 := Lib.hid hd0; replace hy1' := Lib.hid hy1'; replace hy2' := Lib.hid hy2'; replace hy3' := Lib.hid hy3'; replace hyb := Lib.hid hyb; replace hy0' := Lib.hid hy0'; replace hyl := Lib.hid hyl
            clear hl9 hB9 HB7 HD7
            go_wp2_with (at_builtin; refine wpList_append_any _ rfl (.tmp 116) (.tmp 117) 55 rfl w.heap.size 27 i1 (.slice none 0 0) 1 24 Tryd.underlying55 hi_.out hy0.out hy1.out hy2.out rfl (by omega) Ad n0 cd _ rfl hd1.out w19.heap.size A9 p c9 _ rfl (Reads.of_own hy1'.out) hyo.out hcp1 hcp2 hdb.out ?_; intro A3 c3 w4 ho4 hgq _hsq; have hB4 : Below w.heap.size w w4 := below_app HB9.out hgq hd1.out hdb.out; have hC4 := Lists.cat hd1.out hd2.out hd3.out hd0.out hdb.out hyl.out hy2'.out hy3'.out ho4 hgq; replace hB4 := Lib.hid hB4; replace hC4 := Lib.hid hC4; clear ho4 hgq _hsq)
            go_ret2
            refine ⟨A3, c3, ?_⟩
            rw [hDY.out]
            exact ⟨rfl, hC4.out, hB4.out⟩
end Go.Proofs.YtjbedcgacnnanaaDoor
