/-
  Mend, walked.
-/
import Derived.Test.YtjbedcgacnnanaaDoorRsl
namespace Go.Proofs.YtjbedcgacnnanaaDoor
set_option linter.unusedSimpArgs false
set_option linter.unusedVariables false
open Go.RowKit

set_option maxRecDepth 100000 in
set_option maxHeartbeats 4000000 in
theorem mend_bad (k m : Int) (A Ag : Option Addr) (n c ng cg : Nat) (xss : List (List UInt8)) (gs : List Bool) (w : World) (hl : xss.length = n) (hgl : gs.length = ng) (hn : n ≤ 100000) (hng : ng ≤ 100000)
    (h : ¬ (Rsp.may k m = true ∧ (n : Int) = k + m ∧ (ng : Int) = k + m)) :
    Calls Tryd.prog 47 #[.int .i64 k, .int .i64 m, .slice A n c, .slice Ag ng cg] w (LsErr w 0 [] 13) := by
  cases hm : Rsp.may k m with
  | false =>
    have KM : Hid (∀ W, Calls Tryd.prog 37 #[.int .i64 k, .int .i64 m] W fun e w' => e = .returned (.bool false) ∧ W = w') := fun W => by rw [← hm]; exact rsMay_any _ _ _
    clear h hl hgl hm
    go_enter Tryd.func47, Tryd.ntmps47
    go_wp2_with fail; refine (KM.out _).mono ?_; rintro e w' ⟨rfl, rfl⟩
    go_wp2_with fail
    go_ret2
    exact ⟨_, _, rfl, Lists.nil _ _ _ (Nat.zero_le _) (Nat.le_refl _), Below.refl _ _⟩
  | true =>
    have KM : Hid (∀ W, Calls Tryd.prog 37 #[.int .i64 k, .int .i64 m] W fun e w' => e = .returned (.bool true) ∧ W = w') := fun W => by rw [← hm]; exact rsMay_any _ _ _
    obtain ⟨q, hq⟩ : ∃ q : Nat, k + m = (q : Int) := by unfold Rsp.may at hm; simp at hm; exact ⟨(k + m).toNat, by omega⟩
    have hq2 : q ≤ 255 := by unfold Rsp.may at hm; simp at hm; omega
    have hor : n ≠ q ∨ (n = q ∧ ng ≠ q) := by
      by_cases h1 : n = q
      · exact .inr ⟨h1, fun h2 => h ⟨hm, by omega, by omega⟩⟩
      · exact .inl h1
    have hwr : IntKind.i64.wrap (k + m) = (q : Int) := by rw [hq, IntKind.wrap_i64]; omega
    have hwr2 : wrap64 (k + m) = (q : Int) := by rw [hq]; exact IntWalk.wrap64_in _ ⟨by omega, by omega⟩
    clear h hl hgl hm hq
    rcases hor with h1 | ⟨h1, h2⟩
    · have e1 : ((n : Int) == (q : Int)) = false := by simp; omega
      have e2 : ((n : Int) != (q : Int)) = true := by simp; omega
      go_enter Tryd.func47, Tryd.ntmps47
      go_wp2_with fail; refine (KM.out _).mono ?_; rintro e w' ⟨rfl, rfl⟩
      go_wp2_with fail
      go_ret2
      exact ⟨_, _, rfl, Lists.nil _ _ _ (Nat.zero_le _) (Nat.le_refl _), Below.refl _ _⟩
    · have e1 : ((ng : Int) == (q : Int)) = false := by simp; omega
      have e2 : ((ng : Int) != (q : Int)) = true := by simp; omega
      subst h1
      go_enter Tryd.func47, Tryd.ntmps47
      go_wp2_with fail; refine (KM.out _).mono ?_; rintro e w' ⟨rfl, rfl⟩
      go_wp2_with fail
      go_ret2
      exact ⟨_, _, rfl, Lists.nil _ _ _ (Nat.zero_le _) (Nat.le_refl _), Below.refl _ _⟩

set_option maxRecDepth 100000 in
set_option maxHeartbeats 16000000 in
theorem mend_in (n0 p q : Nat) (A Ag : Option Addr) (c cg : Nat) (xss : List (List UInt8)) (gs : List Bool) (w : World) (hnp : n0 + p = q) (h1 : 1 ≤ n0) (hq : q ≤ 255) (hx : Rows8 w w.heap.size A q xss) (hg : Reads w w.heap.size 1 Ag q (gs.map Value.bool)) (hL : ∀ x ∈ xss, x.length ≤ 1000000) :
    Calls Tryd.prog 47 #[.int .i64 n0, .int .i64 p, .slice A q c, .slice Ag q cg] w (LsErr w (Rsp.mendV n0 p xss gs).length (Rsp.mendV n0 p xss gs) (Rsp.mendE n0 p xss gs)) := by
  have hm : Rsp.may (n0 : Int) (p : Int) = true := by unfold Rsp.may; simp; omega
  have hl : xss.length = n0 + p := by obtain ⟨_, _, h2, _⟩ := hx; omega
  have hgl : gs.length = n0 + p := by have := hg.len; omega
  have KM : Hid (∀ W, Calls Tryd.prog 37 #[.int .i64 n0, .int .i64 p] W fun e w' => e = .returned (.bool true) ∧ W = w') := fun W => by rw [← hm]; exact rsMay_any _ _ _
  have KF1 : Hid (Calls Tryd.prog 64 #[.int .i64 q, .slice A q c, .slice Ag q cg] w (FstRet w (Rsp.gd gs q) (Rsp.rowsAt xss (Rsp.gd gs q)))) := by
    have h := first_any q A Ag q c cg xss gs w (by omega) (by omega) hx hg
    rwa [Rsp.fst_all (Nat.le_refl _)] at h
  have hGl := Rsp.gd_len gs q
  have esum : (n0 : Int) + (p : Int) = (q : Int) := by omega
  have hRl : (Rsp.rowsAt xss (Rsp.gd gs q)).length = (Rsp.gd gs q).length := Rsp.rowsAt_len _ _
  unfold FstRet at KF1
  obtain ⟨nG, hnG⟩ : ∃ nG, (Rsp.gd gs q).length = nG := ⟨_, rfl⟩
  cases ha : Rsp.alike (Rsp.rowsAt xss (Rsp.gd gs q)) with
  | false =>
    have hme := Rsp.mend_odd hm hl hgl (by rw [hnp]; exact ha)
    rw [hme.1, hme.2]
    have KA : Hid (∀ (W : World) (A2 : Option Addr) (c2 : Nat), Lists W w.heap.size w.heap.size A2 nG c2 (Rsp.rowsAt xss (Rsp.gd gs q)) → Calls Tryd.prog 38 #[.slice A2 nG c2] W fun e w' => e = .returned (.bool false) ∧ Dr W w') := fun W A2 c2 h => by rw [← ha]; exact alikeD_any A2 nG c2 _ W h.rows8 (by omega)
    rw [hnG] at KF1
    generalize Rsp.rowsAt xss (Rsp.gd gs q) = gss at *
    generalize Rsp.gd gs q = G at *
    clear hx hg hl hgl hL hme ha hm hnp hRl
    replace hnG := Lib.hid hnG
    go_enter Tryd.func47, Tryd.ntmps47
    go_wp2_with fail; refine (KM.out _).mono ?_; rintro e w' ⟨rfl, rfl⟩
    go_wp2_with fail; refine KF1.out.mono ?_; rintro e w1 ⟨A1, c1, A2, c2, rfl, ho1, hl1, hB1⟩
    have KA1 := Lib.hid (KA.out w1 A2 c2 hl1)
    replace hB1 := Lib.hid hB1
    clear ho1 hl1 KA
    go_wp2_with fail; refine KA1.out.mono ?_; rintro e w2 ⟨rfl, hD⟩
    have HB2 := Lib.hid (below_then hB1.out (hD.below _))
    clear hD hB1 KA1
    go_wp2_with fail
    go_ret2
    exact ⟨_, _, rfl, Lists.nil _ _ _ (Nat.zero_le _) HB2.out.size, HB2.out⟩
  | true =>
    have KA : Hid (∀ (W : World) (A2 : Option Addr) (c2 : Nat), Lists W w.heap.size w.heap.size A2 nG c2 (Rsp.rowsAt xss (Rsp.gd gs q)) → Calls Tryd.prog 38 #[.slice A2 nG c2] W fun e w' => e = .returned (.bool true) ∧ Dr W w') := fun W A2 c2 h => by rw [← ha]; exact alikeD_any A2 nG c2 _ W h.rows8 (by omega)
    by_cases hf : nG < n0
    · have hme := Rsp.mend_few hm hl hgl (by rw [hnp]; exact ha) (by rw [hnp]; omega)
      rw [hme.1, hme.2]
      rw [hnG] at KF1
      generalize Rsp.rowsAt xss (Rsp.gd gs q) = gss at *
      generalize Rsp.gd gs q = G at *
      have hf' : (nG : Int) < (n0 : Int) := by omega
      clear hx hg hl hgl hL hme ha hm hnp hRl
      replace hnG := Lib.hid hnG
      go_enter Tryd.func47, Tryd.ntmps47
      go_wp2_with fail; refine (KM.out _).mono ?_; rintro e w' ⟨rfl, rfl⟩
      go_wp2_with fail; refine KF1.out.mono ?_; rintro e w1 ⟨A1, c1, A2, c2, rfl, ho1, hl1, hB1⟩
      have KA1 := Lib.hid (KA.out w1 A2 c2 hl1)
      replace hB1 := Lib.hid hB1
      clear ho1 hl1 KA
      go_wp2_with fail; refine KA1.out.mono ?_; rintro e w2 ⟨rfl, hD⟩
      have HB2 := Lib.hid (below_then hB1.out (hD.below _))
      clear hD hB1 KA1
      go_wp2_with fail
      go_ret2
      exact ⟨_, _, rfl, Lists.nil _ _ _ (Nat.zero_le _) HB2.out.size, HB2.out⟩
    · have hme := Rsp.mend_yes hm hl hgl (by rw [hnp]; exact ha) (by rw [hnp]; omega)
      rw [hnp] at hme
      obtain ⟨L, hLL⟩ := Rsp.fst_alike (n := n0) (by rw [hnp]; exact ha)
      rw [hnp] at hLL
      have hPl : (Rsp.fst n0 gs q).length = n0 := by rw [Rsp.fst_len]; omega
      have hLm : L ≤ 1000000 := by
        have h0 : 0 < (Rsp.fst n0 gs q).length := by omega
        have hx0 : (Rsp.fst n0 gs q)[0] < xss.length := by have := Rsp.fst_lt (List.getElem_mem h0); omega
        have hm0 : xss.getD (Rsp.fst n0 gs q)[0] [] ∈ Rsp.rowsAt xss (Rsp.fst n0 gs q) := List.mem_map.2 ⟨_, List.getElem_mem h0, rfl⟩
        rw [← hLL _ hm0]
        rw [List.getD_eq_getElem?_getD, List.getElem?_eq_getElem hx0]
        exact hL _ (List.getElem_mem hx0)
      have KF2 : Hid (∀ W, Below w.heap.size w W → Calls Tryd.prog 64 #[.int .i64 n0, .slice A q c, .slice Ag q cg] W (FstRet W (Rsp.fst n0 gs q) (Rsp.rowsAt xss (Rsp.fst n0 gs q)))) := fun W hW => first_any n0 A Ag q c cg xss gs W (by omega) (by omega) ((hx.below hW).more hW.size) ((hg.below hW).more hW.size)
      have hPn := Rsp.fst_nodup n0 gs q
      have hPq : ∀ x ∈ Rsp.fst n0 gs q, x < q := fun x hx => Rsp.fst_lt hx
      have hPs := Rsp.fst_sorted n0 gs q
      have hll : (Rsp.rowsAt xss (Rsp.fst n0 gs q)).length = n0 := by rw [Rsp.rowsAt_len, hPl]
      unfold FstRet at KF2
      rw [hPl] at KF2
      rw [hnG] at KF1
      clear hx hg hl hgl hL ha
      generalize Rsp.rowsAt xss (Rsp.gd gs q) = gss at *
      generalize Rsp.gd gs q = G at *
      generalize Rsp.rowsAt xss (Rsp.fst n0 gs q) = l at *
      generalize Rsp.fst n0 gs q = P at *
      have hDl : (Rsp.dataV n0 P l).length = n0 := Rsp.dataV_len
      have hDL : ∀ x ∈ Rsp.dataV n0 P l, x.length = L := Rsp.dataV_all hLL (by omega)
      have hpar := Rsp.par_all hm h1 hDl hDL
      have hself : P = List.range n0 → Rsp.dataV n0 P l = l := fun e => by rw [e]; exact Rsp.data_self (p := p) (by omega) h1 hll hLL
      have hback : Rsp.dataV n0 P l = Rsp.timesP n0 n0 L (Rsp.backF n0 P) l := by unfold Rsp.dataV; rw [Rsp.head_len hLL (by omega)]
      have hYl : (Rsp.parV p (Rsp.dataV n0 P l)).length = p := by rw [hpar.2, Rsp.timesP_len]
      have hYL : ∀ x ∈ Rsp.parV p (Rsp.dataV n0 P l), x.length = L := by rw [hpar.2]; exact Rsp.timesP_all _ _ _ _ _
      rw [hme.1, hme.2]
      clear hme
      generalize hD : Rsp.dataV n0 P l = D at *
      generalize hY : Rsp.parV p D = Y at *
      have KP : Hid (∀ (W : World) (Ad : Option Addr) (cd : Nat), Rows8 W W.heap.size Ad n0 D → Calls Tryd.prog 28 #[.int .i64 p, .slice Ad n0 cd] W fun e w' => ∃ A c, e = .returned (.tuple #[.slice A p c, .int .i64 0]) ∧ Lists w' 0 W.heap.size A p c Y ∧ Below W.heap.size W w') := fun W Ad cd h => by
        have := parity_any p Ad n0 cd D W h (by omega) (fun x hx => by rw [hDL x hx]; exact hLm)
        rw [hY, hpar.1, hYl] at this
        exact this
      have XL : Hid (∀ x ∈ D ++ Y, x.length ≤ 1000000) := fun x hx => by
        rcases List.mem_append.1 hx with h | h
        · rw [hDL x h]; exact hLm
        · rw [hYL x h]; exact hLm
      have hDY : Hid ((D ++ Y).length = q) := by unfold Hid; rw [List.length_append, hDl, hYl]; exact hnp
      -- the last place
      obtain ⟨s, hs⟩ : ∃ s, n0 = s + 1 := ⟨n0 - 1, by omega⟩
      have hsub : (n0 : Int) - 1 = (s : Int) := by omega
      obtain ⟨x, hxP⟩ : ∃ x, P[s]? = some x := ⟨P[s]'(by omega), List.getElem?_eq_getElem _⟩
      have hxq := hPq x (List.mem_of_getElem? hxP)
      have LAST : Hid (∀ (W : World) (A3 : Option Addr) (c3 : Nat) (base : Nat), W.ownsRow base 3 1 (.slice A3 n0 c3) n0 (P.map NV) → ∃ g3, A3 = some ⟨g3, 0, none⟩ ∧ W.cell? ⟨g3, s, none⟩ = some (.int .i64 x)) := fun W A3 c3 base h => by
        obtain ⟨g, cap, hv, _, _⟩ := h.form (by omega)
        have hA3 : A3 = some ⟨g, 0, none⟩ := by injection hv
        subst hA3
        refine ⟨g, rfl, ?_⟩
        rw [h.cellAt s (by omega), List.getElem?_map, hxP]; rfl
      obtain ⟨i1, hi_, hy0, hy1, hy2⟩ := info_parts info_row8
      replace hi_ := Lib.hid hi_; replace hy0 := Lib.hid hy0; replace hy1 := Lib.hid hy1; replace hy2 := Lib.hid hy2
      have hge : (n0 : Int) ≤ (nG : Int) := by omega
      have hz := (zero_of_info info_m).1
      have hs1 : (s : Int) < (n0 : Int) := by omega
      have hs0 : (0 : Int) ≤ (s : Int) := by omega
      by_cases hxs : x = s
      · have hPr : P = List.range n0 := Rsp.rising_range n0 P hPs hPl (fun y hy => by rw [hs, Nat.add_sub_cancel] at hy ⊢; rw [hxP] at hy; injection hy with hy; omega)
        have hDe := hself hPr
        clear hPr hback hpar hYl hYL hDl hDL hll hLL hPn hPq hPs hPl hY hD hself hm hRl
        subst hDe
        replace hxP := Lib.hid hxP
        replace hnG := Lib.hid hnG
        replace hs := Lib.hid hs
        have hxe : (x : Int) = (s : Int) := by omega
        replace hnp := Lib.hid hnp
        subst hxs
        go_enter Tryd.func47, Tryd.ntmps47
        go_wp2_with fail; refine (KM.out _).mono ?_; rintro e w' ⟨rfl, rfl⟩
        go_wp2_with fail; refine KF1.out.mono ?_; rintro e w1 ⟨A1, c1, A2, c2, rfl, ho1, hl1, hB1⟩
        have KA1 := Lib.hid (KA.out w1 A2 c2 hl1)
        replace hB1 := Lib.hid hB1
        clear ho1 hl1 KA
        go_wp2_with fail; refine KA1.out.mono ?_; rintro e w2 ⟨rfl, hD⟩
        have HB2 := Lib.hid (below_then hB1.out (hD.below _))
        clear hD hB1 KA1
        go_wp2_with fail; refine (KF2.out _ HB2.out).mono ?_; rintro e w3 ⟨A3, c3, A4, cd, rfl, ho3, hl3, hB3⟩
        have HBT := Lib.hid (below_then HB2.out hB3)
        have HRT := Lib.hid hl3.rows8
        obtain ⟨g3, rfl, hc3⟩ := LAST.out _ _ _ _ ho3
        clear ho3 hl3 hB3 HB2 KF2 KF1
        go_wp2_with fail
        refine (KP.out _ _ _ HRT.out).mono ?_; rintro e w6 ⟨A6, c6, rfl, hl6, hB6⟩
        have HB6 := Lib.hid (below_then HBT.out hB6)
        have HR6 := Lib.hid ((HRT.out.below hB6).more hB6.size)
        have HY6 := Lib.hid hl6.rows8
        clear hl6 hB6 HBT HRT KP
        go_wp2_with (at_make; refine wpList_make_own _ rfl _ _ 55 rfl w.heap.size 27 i1 (.slice none 0 0) 1 Tryd.underlying55 hi_.out hy0.out hy1.out .i64 .i64 _ q rfl rfl rfl (by rw [hy2.out]; omega) (by unfold maxLen; omega) HB6.out.size ?_; intro w7 ho7 hg7; have HB7 := Lib.hid (show Below w.heap.size w w7 from HB6.out.grown hg7 HB6.out.size (fun k hk => by cases hk)); have hB67 := (show Below w6.heap.size w6 w7 from (Below.refl _ w6).grown hg7 (Nat.le_refl _) (fun k hk => by cases hk)); have HR7 := Lib.hid (HR6.out.below hB67); have HY7 := Lib.hid (HY6.out.below hB67); have HO7 := Lib.hid (show Lists w7 0 w.heap.size (some ⟨w6.heap.size, 0, none⟩) 0 q [] from Lists.vals ho7 rfl (fun i xs hi => by simp at hi) (Nat.zero_le _) HB7.out.size); have HL67 := Lib.hid hB67.size; have HLT := Lib.hid (HO7.out.ex.choose_spec.1.lt w6.heap.size rfl).2; clear hg7 ho7 hB67 HB6 HR6 HY6)
        have KC := Lib.hid (concat2 (c1 := cd) (c2 := c6) HL67.out HR7.out HY7.out (by omega))
        generalize hg7e : w6.heap.size = g7 at *
        replace hg7e := Lib.hid hg7e
        refine KC.out.mono ?_; rintro e w8 ⟨A8, c8, rfl, hr8, hB8⟩
        have HB8 := Lib.hid (below_then HB7.out hB8)
        have HO8 := Lib.hid (HO7.out.below hB8)
        have HS := Lib.hid (fun (W : World) (A21 : Option Addr) (hW : Aside w8 W g7 A21) (k : Nat) (hk : k < n0 + p) => hr8.row (Nat.le_refl _) HLT.out (Nat.le_trans HL67.out hB8.size) hW hk)
        have HG := Lib.hid (show g7 ≤ w8.heap.size from Nat.le_trans HL67.out hB8.size)
        clear hr8 hB8 HB7 HR7 HY7 KC HO7 HLT HL67
        rw [hnp.out] at HS
        go_wp2_with fail
        go_loopw [107, 21] (fun v107 v21 wr => ∃ (j c21 : Nat) (A21 : Option Addr), v107 = .int .i64 j ∧ v21 = .slice A21 j c21 ∧ j ≤ q ∧ Hid (Aside w8 wr g7 A21) ∧ Hid (Below w.heap.size w wr) ∧ Hid (Lists wr 0 w.heap.size A21 j c21 ((D ++ Y).take j))) (fun v107 _ _ => q - (intOf v107).toNat)
        case atStart => exact ⟨0, q, _, rfl, rfl, by omega, Aside.start _ _, HB8, by rw [List.take_zero]; exact HO8.out⟩
        case round =>
          clear HO8 HB8
          obtain ⟨j, c21, A21, rfl, rfl, hjn, HA, HB, HO⟩ := hrel
          by_cases hlt : j < q
          · have hlt' : (j : Int) < (q : Int) := by omega
            obtain ⟨ad, xs, Ai, ci, hA, hx, hc, -, -, hr⟩ := HS.out wr A21 HA.out j hlt
            subst hA
            have TK : (D ++ Y).take (j + 1) = (D ++ Y).take j ++ [xs] := by rw [List.take_add_one, hx]; rfl
            replace TK := Lib.hid TK
            have hxl := XL.out xs (List.mem_of_getElem? hx)
            have KCl := Lib.hid (clone_any Ai xs.length ci g7 xs wr hr (Nat.le_trans HG.out HA.out.size) (by omega))
            obtain ⟨lx, hlx⟩ : ∃ lx, xs.length = lx := ⟨_, rfl⟩
            rw [hlx] at hc hxl KCl
            replace hlx := Lib.hid hlx
            have hc1 : j + 1 ≤ maxLen := by unfold maxLen; omega
            have hc2 : (j + 1) * 24 ≤ 140737488355328 := by omega
            clear hx hr
            go_wp2_with fail
            refine KCl.out.mono ?_; rintro e w9 ⟨A9, c9, rfl, hf9⟩
            have HA9 := Lib.hid (HA.out.below hf9.2)
            have HB9 := Lib.hid (below_then HB.out hf9.2)
            have HO9 := Lib.hid (HO.out.below hf9.2)
            have HR9 := Lib.hid (RowOK.own (b0 := 0) (own_base hf9.1 HB.out.size))
            have hln : Hid (xs.length = lx) := hlx
            clear hf9 KCl hc HO HB HA
            have hLa := HO9.out.below ((Below.refl _ w9).alloc (Nat.le_refl _) (.cells #[.slice A9 lx c9] 27))
            have hRa := RowOK.below (HR9.out.2) HO9.out.b0s HO9.out.bs ((Below.refl _ w9).alloc (Nat.le_refl _) (.cells #[.slice A9 lx c9] 27))
            obtain ⟨⟨vs, hv1, hv2, hv3⟩, hvb, hv0⟩ := hLa
            replace hv1 := Lib.hid hv1; replace hv2 := Lib.hid hv2; replace hv3 := Lib.hid hv3; replace hvb := Lib.hid hvb; replace hv0 := Lib.hid hv0; replace hRa := Lib.hid hRa
            clear HO9
            go_wp2_with (at_builtin; refine wpList_append_any _ rfl (.tmp 111) (.tmp 114) 55 rfl w.heap.size 27 i1 (.slice none 0 0) 1 24 Tryd.underlying55 hi_.out hy0.out hy1.out hy2.out rfl (by omega) A21 j c21 _ rfl hv1.out (w9.heap.size + 1) _ 1 1 _ rfl (reads_one w9 _ _) (one_one rfl) hc1 hc2 hvb.out ?_; intro A3 c3 w4 ho4 hgq _hsq; have hB4 : Below w.heap.size w w4 := below_app (HB9.out.alloc HB9.out.size (.cells #[.slice A9 lx c9] 27)) hgq hv1.out hvb.out; have hP4 := Lists.pushN hln.out hRa.out hv1.out hv2.out hv3.out hv0.out hvb.out ho4 hgq; have hA4 := Lib.hid (HA9.out.app hgq _hsq); replace hB4 := Lib.hid hB4; replace hP4 := Lib.hid hP4; clear hgq _hsq ho4 hv1 hv2 hv3 hvb hv0 hRa)
            go_roundw
            case rel => exact ⟨j + 1, c3, A3, by go_num, rfl, by omega, hA4, hB4, by rw [TK.out]; exact hP4.out⟩
            case measure => simp [intOf]; omega
          · have hge : (q : Int) ≤ (j : Int) := by omega
            obtain rfl : j = q := by omega
            rw [List.take_of_length_le (by rw [hDY.out]; omega)] at HO
            clear HS
            go_wp2_with fail
            go_ret2
            refine ⟨A21, c21, ?_⟩
            rw [hDY.out]
            exact ⟨rfl, HO.out, HB.out⟩
      · have e1 : ((x : Int) == (s : Int)) = false := by simp; omega
        have e2 : ((x : Int) != (s : Int)) = true := by simp; omega
        have KW := Lib.hid (fun W => whole_any n0 p W (by omega))
        have KPk := Lib.hid (fun W Aw Ap kw kp h2 h1 h3 => pick_whole (n := n0) (p := p) (P := P) (by omega) hPl (by rw [hnp]; exact hPq) W Aw Ap kw kp h2 h1 h3)
        have KIv := Lib.hid (fun W As ks h1 => inv_sub (n := n0) (p := p) (P := P) (by omega) hPl hPn (by rw [hnp]; exact hPq) W As ks h1)
        have KTm : Hid (∀ (W : World) (Am A4 : Option Addr) (k cl : Nat), n0 * n0 ≤ k → Reads W W.heap.size 1 Am (n0 * n0) ((cellsTo n0 (Rsp.backF n0 P) (n0 * n0)).map B8) → Rows8 W W.heap.size A4 n0 l → Calls Tryd.prog 40 #[.agg #[.int .i64 n0, .int .i64 n0, .slice Am (n0 * n0) k], .slice A4 n0 cl] W (LsRet W n0 D)) := fun W Am A4 k cl hk hr hx => by
          rw [hback]
          exact times_any n0 n0 L _ Am A4 k cl l W (by omega) (by omega) h1 hk hLm hr hx hLL
        unfold MOne mC at KW
        unfold MRet mC at KPk KIv
        unfold LsRet at KTm
        simp only [cellsTo_len] at KW KPk KIv
        clear hback hpar hYl hYL hDl hDL hll hLL hPn hPq hPs hPl hY hD hself hm hRl
        rw [hnp] at KW KPk
        obtain ⟨N2, hN2⟩ : ∃ N2, n0 * n0 = N2 := ⟨_, rfl⟩
        obtain ⟨N4, hN4⟩ : ∃ N4, q * n0 = N4 := ⟨_, rfl⟩
        rw [hN2] at KPk KIv KTm
        rw [hN4] at KW KPk
        generalize cellsTo n0 (Lin.wholeC n0) N4 = xw at *
        generalize cellsTo n0 (fun i j => Lin.wholeC n0 (P.getD i 0) j) N2 = xu at *
        generalize cellsTo n0 (Rsp.backF n0 P) N2 = xv at *
        replace hN2 := Lib.hid hN2; replace hN4 := Lib.hid hN4
        replace hxP := Lib.hid hxP
        replace hnG := Lib.hid hnG
        replace hs := Lib.hid hs
        replace hnp := Lib.hid hnp
        go_enter Tryd.func47, Tryd.ntmps47
        go_wp2_with fail; refine (KM.out _).mono ?_; rintro e w' ⟨rfl, rfl⟩
        go_wp2_with fail; refine KF1.out.mono ?_; rintro e w1 ⟨A1, c1, A2, c2, rfl, ho1, hl1, hB1⟩
        have KA1 := Lib.hid (KA.out w1 A2 c2 hl1)
        replace hB1 := Lib.hid hB1
        clear ho1 hl1 KA
        go_wp2_with fail; refine KA1.out.mono ?_; rintro e w2 ⟨rfl, hD⟩
        have HB2 := Lib.hid (below_then hB1.out (hD.below _))
        clear hD hB1 KA1
        go_wp2_with fail; refine (KF2.out _ HB2.out).mono ?_; rintro e w3 ⟨A3, c3, A4, c4, rfl, ho3, hl3, hB3⟩
        have HB3 := Lib.hid (below_then HB2.out hB3)
        obtain ⟨g3, rfl, hc3⟩ := LAST.out _ _ _ _ ho3
        replace ho3 := Lib.hid ho3; replace hl3 := Lib.hid hl3
        clear hB3 HB2 KF2 KF1 LAST
        go_wp2_with fail; refine (KW.out _).mono ?_; rintro e w4 ⟨Aw, kw, rfl, how, hBw⟩
        have hpw := mret_parts how
        have HB4 := Lib.hid (below_then HB3.out hBw)
        have HL4 := Lib.hid (hl3.out.below hBw)
        have KPk1 := Lib.hid (KPk.out w4 Aw (some ⟨g3, 0, none⟩) kw c3 hpw.2 hpw.1 (Reads.of_own (own_belowL ho3.out hBw)))
        clear hc3 how hBw hpw ho3 hl3 HB3 KW KPk
        go_wp2_with fail; refine KPk1.out.mono ?_; rintro e w5 ⟨Au, ku, rfl, hou, hBu⟩
        have hpu := mret_parts hou
        have HB5 := Lib.hid (below_alloc (below_then HB4.out hBu) (.cells #[.int .i64 (n0 : Nat), .int .i64 (n0 : Nat), .slice Au N2 ku] 75))
        have HL5 := Lib.hid ((HL4.out.below hBu).below (below_alloc (Below.refl _ w5) (.cells #[.int .i64 (n0 : Nat), .int .i64 (n0 : Nat), .slice Au N2 ku] 75)))
        have Mu := Lib.hid (MB.new (r := (n0 : Nat)) (c := (n0 : Nat)) hpu.1 hpu.2)
        clear hpu hou hBu HB4 HL4 KPk1
        obtain ⟨qu0, qu1, qu2⟩ := Mu.out.cells
        go_wp2_with fail
        generalize w5.alloc (.cells #[.int .i64 (n0 : Nat), .int .i64 (n0 : Nat), .slice Au N2 ku] 75) = w5a at *
        generalize w5.heap.size = gu at *
        refine (KIv.out _ _ _ Mu.out.rd).mono ?_; rintro e w6 ⟨Av, kv, rfl, hov, hBv⟩
        have hpv := mret_parts hov
        have HBv := Lib.hid (below_alloc (below_then HB5.out hBv) (.cells #[.int .i64 (n0 : Nat), .int .i64 (n0 : Nat), .slice Av N2 kv] 75))
        have HLv := Lib.hid ((HL5.out.below hBv).below (below_alloc (Below.refl _ w6) (.cells #[.int .i64 (n0 : Nat), .int .i64 (n0 : Nat), .slice Av N2 kv] 75)))
        have Mv := Lib.hid (MB.new (r := (n0 : Nat)) (c := (n0 : Nat)) hpv.1 hpv.2)
        clear hpv hov hBv HB5 HL5 qu0 qu1 qu2 Mu KIv
        obtain ⟨qv0, qv1, qv2⟩ := Mv.out.cells
        go_wp2_with fail
        generalize w6.alloc (.cells #[.int .i64 (n0 : Nat), .int .i64 (n0 : Nat), .slice Av N2 kv] 75) = w6a at *
        generalize w6.heap.size = gv at *
        refine (KTm.out _ _ _ _ _ Mv.out.cap Mv.out.rd HLv.out.rows8).mono ?_; rintro e wT ⟨Ad, cd, rfl, hlt5, hBt5⟩
        have HBT := Lib.hid (below_then HBv.out hBt5)
        have HRT := Lib.hid hlt5.rows8
        clear hlt5 hBt5 HBv HLv Mv qv0 qv1 qv2 KTm
        go_wp2_with fail
        refine (KP.out _ _ _ HRT.out).mono ?_; rintro e w6 ⟨A6, c6, rfl, hl6, hB6⟩
        have HB6 := Lib.hid (below_then HBT.out hB6)
        have HR6 := Lib.hid ((HRT.out.below hB6).more hB6.size)
        have HY6 := Lib.hid hl6.rows8
        clear hl6 hB6 HBT HRT KP
        go_wp2_with (at_make; refine wpList_make_own _ rfl _ _ 55 rfl w.heap.size 27 i1 (.slice none 0 0) 1 Tryd.underlying55 hi_.out hy0.out hy1.out .i64 .i64 _ q rfl rfl rfl (by rw [hy2.out]; omega) (by unfold maxLen; omega) HB6.out.size ?_; intro w7 ho7 hg7; have HB7 := Lib.hid (show Below w.heap.size w w7 from HB6.out.grown hg7 HB6.out.size (fun k hk => by cases hk)); have hB67 := (show Below w6.heap.size w6 w7 from (Below.refl _ w6).grown hg7 (Nat.le_refl _) (fun k hk => by cases hk)); have HR7 := Lib.hid (HR6.out.below hB67); have HY7 := Lib.hid (HY6.out.below hB67); have HO7 := Lib.hid (show Lists w7 0 w.heap.size (some ⟨w6.heap.size, 0, none⟩) 0 q [] from Lists.vals ho7 rfl (fun i xs hi => by simp at hi) (Nat.zero_le _) HB7.out.size); have HL67 := Lib.hid hB67.size; have HLT := Lib.hid (HO7.out.ex.choose_spec.1.lt w6.heap.size rfl).2; clear hg7 ho7 hB67 HB6 HR6 HY6)
        have KC := Lib.hid (concat2 (c1 := cd) (c2 := c6) HL67.out HR7.out HY7.out (by omega))
        generalize hg7e : w6.heap.size = g7 at *
        replace hg7e := Lib.hid hg7e
        refine KC.out.mono ?_; rintro e w8 ⟨A8, c8, rfl, hr8, hB8⟩
        have HB8 := Lib.hid (below_then HB7.out hB8)
        have HO8 := Lib.hid (HO7.out.below hB8)
        have HS := Lib.hid (fun (W : World) (A21 : Option Addr) (hW : Aside w8 W g7 A21) (k : Nat) (hk : k < n0 + p) => hr8.row (Nat.le_refl _) HLT.out (Nat.le_trans HL67.out hB8.size) hW hk)
        have HG := Lib.hid (show g7 ≤ w8.heap.size from Nat.le_trans HL67.out hB8.size)
        clear hr8 hB8 HB7 HR7 HY7 KC HO7 HLT HL67
        rw [hnp.out] at HS
        go_wp2_with fail
        go_loopw [107, 21] (fun v107 v21 wr => ∃ (j c21 : Nat) (A21 : Option Addr), v107 = .int .i64 j ∧ v21 = .slice A21 j c21 ∧ j ≤ q ∧ Hid (Aside w8 wr g7 A21) ∧ Hid (Below w.heap.size w wr) ∧ Hid (Lists wr 0 w.heap.size A21 j c21 ((D ++ Y).take j))) (fun v107 _ _ => q - (intOf v107).toNat)
        case atStart => exact ⟨0, q, _, rfl, rfl, by omega, Aside.start _ _, HB8, by rw [List.take_zero]; exact HO8.out⟩
        case round =>
          clear HO8 HB8
          obtain ⟨j, c21, A21, rfl, rfl, hjn, HA, HB, HO⟩ := hrel
          by_cases hlt : j < q
          · have hlt' : (j : Int) < (q : Int) := by omega
            obtain ⟨ad, xs, Ai, ci, hA, hx, hc, -, -, hr⟩ := HS.out wr A21 HA.out j hlt
            subst hA
            have TK : (D ++ Y).take (j + 1) = (D ++ Y).take j ++ [xs] := by rw [List.take_add_one, hx]; rfl
            replace TK := Lib.hid TK
            have hxl := XL.out xs (List.mem_of_getElem? hx)
            have KCl := Lib.hid (clone_any Ai xs.length ci g7 xs wr hr (Nat.le_trans HG.out HA.out.size) (by omega))
            obtain ⟨lx, hlx⟩ : ∃ lx, xs.length = lx := ⟨_, rfl⟩
            rw [hlx] at hc hxl KCl
            replace hlx := Lib.hid hlx
            have hc1 : j + 1 ≤ maxLen := by unfold maxLen; omega
            have hc2 : (j + 1) * 24 ≤ 140737488355328 := by omega
            clear hx hr
            go_wp2_with fail
            refine KCl.out.mono ?_; rintro e w9 ⟨A9, c9, rfl, hf9⟩
            have HA9 := Lib.hid (HA.out.below hf9.2)
            have HB9 := Lib.hid (below_then HB.out hf9.2)
            have HO9 := Lib.hid (HO.out.below hf9.2)
            have HR9 := Lib.hid (RowOK.own (b0 := 0) (own_base hf9.1 HB.out.size))
            have hln : Hid (xs.length = lx) := hlx
            clear hf9 KCl hc HO HB HA
            have hLa := HO9.out.below ((Below.refl _ w9).alloc (Nat.le_refl _) (.cells #[.slice A9 lx c9] 27))
            have hRa := RowOK.below (HR9.out.2) HO9.out.b0s HO9.out.bs ((Below.refl _ w9).alloc (Nat.le_refl _) (.cells #[.slice A9 lx c9] 27))
            obtain ⟨⟨vs, hv1, hv2, hv3⟩, hvb, hv0⟩ := hLa
            replace hv1 := Lib.hid hv1; replace hv2 := Lib.hid hv2; replace hv3 := Lib.hid hv3; replace hvb := Lib.hid hvb; replace hv0 := Lib.hid hv0; replace hRa := Lib.hid hRa
            clear HO9
            go_wp2_with (at_builtin; refine wpList_append_any _ rfl (.tmp 111) (.tmp 114) 55 rfl w.heap.size 27 i1 (.slice none 0 0) 1 24 Tryd.underlying55 hi_.out hy0.out hy1.out hy2.out rfl (by omega) A21 j c21 _ rfl hv1.out (w9.heap.size + 1) _ 1 1 _ rfl (reads_one w9 _ _) (one_one rfl) hc1 hc2 hvb.out ?_; intro A3 c3 w4 ho4 hgq _hsq; have hB4 : Below w.heap.size w w4 := below_app (HB9.out.alloc HB9.out.size (.cells #[.slice A9 lx c9] 27)) hgq hv1.out hvb.out; have hP4 := Lists.pushN hln.out hRa.out hv1.out hv2.out hv3.out hv0.out hvb.out ho4 hgq; have hA4 := Lib.hid (HA9.out.app hgq _hsq); replace hB4 := Lib.hid hB4; replace hP4 := Lib.hid hP4; clear hgq _hsq ho4 hv1 hv2 hv3 hvb hv0 hRa)
            go_roundw
            case rel => exact ⟨j + 1, c3, A3, by go_num, rfl, by omega, hA4, hB4, by rw [TK.out]; exact hP4.out⟩
            case measure => simp [intOf]; omega
          · have hge : (q : Int) ≤ (j : Int) := by omega
            obtain rfl : j = q := by omega
            rw [List.take_of_length_le (by rw [hDY.out]; omega)] at HO
            clear HS
            go_wp2_with fail
            go_ret2
            refine ⟨A21, c21, ?_⟩
            rw [hDY.out]
            exact ⟨rfl, HO.out, HB.out⟩
end Go.Proofs.YtjbedcgacnnanaaDoor
