/-
  The law RsBack, walked.
-/
import Derived.Test.YtjbedcgacnnanaaRsx
namespace Go.Proofs.Ytjbedcgacnnanaa
set_option linter.unusedSimpArgs false
set_option linter.unusedVariables false
open Go.RowKit

theorem own_len0 {w : World} {base m c : Nat} {E : TypeId} {A : Option Addr} {xs : List Value} (h : w.ownsRow base E 1 (.slice A (0 + m) c) (0 + m) ([] ++ xs)) : w.ownsRow base E 1 (.slice A m c) m xs := by
  rw [Nat.zero_add, List.nil_append] at h; exact h
theorem info_bool : (Try.prog.info? 4).map (fun i => (i.zero, i.size, i.bytes)) = some (some (.bool false), 1, 1) := by kernel_rfl
set_option maxRecDepth 100000 in
set_option maxHeartbeats 16000000 in
theorem rsBack_walk (m : Nat) (A : Option Addr) (n c : Nat) (xss : List (List UInt8)) (As : Option Addr) (ns cs : Nat) (sp : List UInt8) (Ab : Option Addr) (nb cb : Nat) (by_ : List UInt8) (w : World) (hm : m < 256) (hnc : n ≤ c) (hcm : c ≤ maxLen) (h : Rows8 w w.heap.size A n xss)
    (_ls : ns ≤ cs) (_ms : cs ≤ maxLen) (hs : Reads w w.heap.size 1 As ns (sp.map B8)) (hlb : nb ≤ cb) (hmb : cb ≤ maxLen) (hb : Reads w w.heap.size 1 Ab nb (by_.map B8)) :
    Calls Try.prog 6 #[.int .u8 m, .slice A n c, .slice As ns cs, .slice Ab nb cb] w fun e w' => e = .returned (.bool true) ∧ Below w.heap.size w w' := by
  have hl := h.len
  have H := Lib.hid (fun W (hW : Below w.heap.size w W) => (h.below hW).more hW.size)
  have KG : Hid (∀ W, Below w.heap.size w W → Calls Try.prog 10 #[.slice A n c] W fun e w' => e = .returned (.bool (Rsp.great xss)) ∧ W = w') := fun W hW => greatL_any A n c _ xss W (H.out W hW)
  obtain ⟨p, hp⟩ : ∃ p, p = m % 9 := ⟨_, rfl⟩
  have hp8 : p ≤ 8 := by omega
  have ep : (m : Int) % 9 = (p : Int) := by omega
  replace hp := Lib.hid hp
  cases hga : Rsp.great xss with
  | true =>
    rw [hga] at KG
    clear h hl hga hs hb
    go_enter Try.func6, Try.ntmps6
    go_wp2_with fail; refine (rsAlive_any _).mono ?_; rintro e w1 ⟨rfl, hB1⟩
    replace hB1 := Lib.hid hB1
    go_wp2_with fail; refine (KG.out _ hB1.out).mono ?_; rintro e w' ⟨rfl, rfl⟩

    go_wp2_with fail
    go_ret
    exact ⟨rfl, hB1.out⟩
  | false =>
    rw [hga] at KG
    have hgp := Rsp.great_parts hga
    have hn16 : n ≤ 16 := by omega
    have hsm := small_of_great hga
    have KA : Hid (∀ W, Below w.heap.size w W → Calls Try.prog 17 #[.slice A n c] W fun e w' => e = .returned (.bool (Rsp.alike xss)) ∧ Dr W w') := fun W hW => refAlikeD_any A n c xss W (H.out W hW) (by omega)
    by_cases h1 : n = 0
    · have h1' : (n : Int) < 1 := by omega
      clear h hl hga hs hb hgp hsm h1 KA
      go_enter Try.func6, Try.ntmps6
      go_wp2_with fail; refine (rsAlive_any _).mono ?_; rintro e w1 ⟨rfl, hB1⟩
      replace hB1 := Lib.hid hB1
      go_wp2_with fail; refine (KG.out _ hB1.out).mono ?_; rintro e w' ⟨rfl, rfl⟩

      go_wp2_with fail
      go_ret
      exact ⟨rfl, hB1.out⟩
    have h1' : ¬ ((n : Int) < 1) := by omega
    by_cases h12 : 12 < n
    · have h12' : (12 : Int) < (n : Int) := by omega
      clear h hl hga hs hb hgp hsm h1 KA
      go_enter Try.func6, Try.ntmps6
      go_wp2_with fail; refine (rsAlive_any _).mono ?_; rintro e w1 ⟨rfl, hB1⟩
      replace hB1 := Lib.hid hB1
      go_wp2_with fail; refine (KG.out _ hB1.out).mono ?_; rintro e w' ⟨rfl, rfl⟩

      go_wp2_with fail
      go_ret
      exact ⟨rfl, hB1.out⟩
    have h12' : ¬ ((12 : Int) < (n : Int)) := by omega
    cases ha : Rsp.alike xss with
    | false =>
      rw [ha] at KA
      clear h hl hga hs hb hgp hsm h1
      go_enter Try.func6, Try.ntmps6
      go_wp2_with fail; refine (rsAlive_any _).mono ?_; rintro e w1 ⟨rfl, hB1⟩
      replace hB1 := Lib.hid hB1
      go_wp2_with fail; refine (KG.out _ hB1.out).mono ?_; rintro e w' ⟨rfl, rfl⟩

      go_wp2_with fail; refine (KA.out _ hB1.out).mono ?_; rintro e w2 ⟨rfl, hD⟩
      have hB2 := Lib.hid (below_then hB1.out (hD.below _))
      clear hD hB1

      go_wp2_with fail
      go_ret
      exact ⟨rfl, hB2.out⟩
    | true =>
      rw [ha] at KA
      by_cases h30 : 30 < ns
      · have h30' : (30 : Int) < (ns : Int) := by omega
        clear h hl hga hs hb hgp hsm h1
        go_enter Try.func6, Try.ntmps6
        go_wp2_with fail; refine (rsAlive_any _).mono ?_; rintro e w1 ⟨rfl, hB1⟩
        replace hB1 := Lib.hid hB1
        go_wp2_with fail; refine (KG.out _ hB1.out).mono ?_; rintro e w' ⟨rfl, rfl⟩

        go_wp2_with fail; refine (KA.out _ hB1.out).mono ?_; rintro e w2 ⟨rfl, hD⟩
        have hB2 := Lib.hid (below_then hB1.out (hD.below _))
        clear hD hB1

        go_wp2_with fail
        go_ret
        exact ⟨rfl, hB2.out⟩
      have h30' : ¬ ((30 : Int) < (ns : Int)) := by omega
      by_cases h40 : 40 < nb
      · have h40' : (40 : Int) < (nb : Int) := by omega
        clear h hl hga hs hb hgp hsm h1
        go_enter Try.func6, Try.ntmps6
        go_wp2_with fail; refine (rsAlive_any _).mono ?_; rintro e w1 ⟨rfl, hB1⟩
        replace hB1 := Lib.hid hB1
        go_wp2_with fail; refine (KG.out _ hB1.out).mono ?_; rintro e w' ⟨rfl, rfl⟩

        go_wp2_with fail; refine (KA.out _ hB1.out).mono ?_; rintro e w2 ⟨rfl, hD⟩
        have hB2 := Lib.hid (below_then hB1.out (hD.below _))
        clear hD hB1

        go_wp2_with fail
        go_ret
        exact ⟨rfl, hB2.out⟩
      have h40' : ¬ ((40 : Int) < (nb : Int)) := by omega
      have hal := Rsp.alike_all ha
      obtain ⟨L1, hLe⟩ : ∃ L, (xss.headD []).length = L := ⟨_, rfl⟩
      rw [hLe] at hal
      have hL40 : L1 ≤ 40 := by
        rw [← hLe]
        cases xss with
        | nil => simp
        | cons a t => exact hgp.2 a (List.mem_cons_self ..)
      obtain ⟨q, hnp⟩ : ∃ q, n + p = q := ⟨_, rfl⟩
      have esum : (n : Int) + (p : Int) = (q : Int) := by omega
      have hq : q ≤ 255 := by omega
      have hn1 : 1 ≤ n := by omega
      have hm1 : Rsp.may (n : Int) (p : Int) = true := by unfold Rsp.may; simp; omega
      have hpa := Rsp.par_all hm1 hn1 hl hal
      have KP : Hid (∀ W, Below w.heap.size w W → Calls Try.prog 12 #[.int .i64 p, .slice A n c] W fun e w' => ∃ A c, e = .returned (.tuple #[.slice A p c, .int .i64 0]) ∧ Lists w' 0 W.heap.size A p c (Rsp.timesP p n L1 (cauC n) xss) ∧ Below W.heap.size W w') := fun W hW => by
        have := parity_any p A n c xss W (H.out W hW) (by omega) hsm
        rw [hpa.1, hpa.2, Rsp.timesP_len] at this
        exact this
      have hVl : (Rsp.allV n p L1 xss).length = q := by rw [Rsp.allV_len hl, hnp]
      have hVL : ∀ x ∈ Rsp.allV n p L1 xss, x.length = L1 := Rsp.allV_all hal
      have hri := Rsp.all_right (p := p) hn1 (by omega) hl hal
      have VD : Hid (∀ i x, i < n → xss[i]? = some x → (Rsp.allV n p L1 xss)[i]? = some x) := fun i x hi hx => by unfold Rsp.allV; rw [List.getElem?_append_left (by omega)]; exact hx
      have VP : Hid (∀ i x, (Rsp.timesP p n L1 (cauC n) xss)[i]? = some x → (Rsp.allV n p L1 xss)[n + i]? = some x) := fun i x hx => by unfold Rsp.allV; rw [List.getElem?_append_right (by omega), hl, Nat.add_sub_cancel_left]; exact hx
      have KR : Hid (∀ (W : World) (A3 : Option Addr) (c3 b0 base : Nat), Lists W b0 base A3 q c3 (Rsp.allV n p L1 xss) → Calls Try.prog 19 #[.int .i64 n, .int .i64 p, .slice A3 q c3] W fun e w' => e = .returned (.bool true) ∧ Below W.heap.size W w') := fun W A3 c3 b0 base hl3 => by
        have := right_any n p A3 q c3 _ W hl3.rows8 hl3.cap.1 hl3.cap.2 (by omega) (fun x hx => by rw [hVL x hx]; omega)
        rw [hri] at this
        exact this
      have KS : Hid (∀ (W : World) (A1 A2 : Option Addr) (c1 c2 : Nat), Rows8 W W.heap.size A1 q (Rsp.allV n p L1 xss) → Rows8 W W.heap.size A2 q (Rsp.allV n p L1 xss) → Calls Try.prog 14 #[.slice A1 q c1, .slice A2 q c2] W fun e w' => e = .returned (.bool true) ∧ Dr W w') := fun W A1 A2 c1 c2 h1 h2 => by
        have h := sameL_any A1 A2 q q c1 c2 _ _ _ _ W h1 h2 (by omega)
        rwa [decide_eq_true rfl] at h
      have KM : Hid (∀ (W : World) (A3 A4 : Option Addr) (c3 c4 n1 : Nat) (fl : List Bool) (nw : List (List UInt8)), Rsp.Spoilt q n1 (Rsp.allV n p L1 xss) fl nw → n1 ≤ p → Rows8 W W.heap.size A3 q nw → (∀ x ∈ nw, x.length ≤ 1000000) → Reads W W.heap.size 1 A4 q (fl.map Value.bool) → Calls Try.prog 15 #[.int .i64 n, .int .i64 p, .slice A3 q c3, .slice A4 q c4] W fun e w' => ∃ A c, e = .returned (.tuple #[.slice A q c, .int .i64 0]) ∧ Lists w' 0 W.heap.size A q c (Rsp.allV n p L1 xss) ∧ Below W.heap.size W w') := fun W A3 A4 c3 c4 n1 fl nw hsp hn hr hx hf => by
        have := mend_in n p q A3 A4 c3 c4 nw fl W hnp hn1 hq hr hf hx
        have e := hsp.mend hnp hn1 hq hn hl hal
        rw [e.1, e.2, hVl] at this
        exact this
      have SP0 := Lib.hid (Rsp.Spoilt.start q (Rsp.allV n p L1 xss) hVl)
      have BYL : Hid (by_.length = nb) := hb.len
      have ROWd : Hid (∀ W, Below w.heap.size w W → ∀ i, i < n → ∃ x ad Ai ci, A = some ad ∧ (Rsp.allV n p L1 xss)[i]? = some x ∧ x.length = L1 ∧ W.cell? (ad.add i) = some (.slice Ai L1 ci) ∧ Reads W W.heap.size 1 Ai L1 (x.map B8)) := fun W hW i hi => by
        obtain ⟨ad, x, Ai, ci, hA, hx, hc, -, -, hr⟩ := (H.out W hW).rowr hi
        have e := hal x (List.mem_of_getElem? hx)
        rw [e] at hc hr
        exact ⟨x, ad, Ai, ci, hA, VD.out i x hi hx, e, hc, hr⟩
      have HS := Lib.hid (fun W (hW : Below w.heap.size w W) (i : Nat) (hi : i < ns) => (hs.below hW).byte hi)
      have HBY : Hid (∀ W W0, Below w.heap.size w W → w.heap.size ≤ W0 → RowOK W W0 W0 Ab cb by_) := fun W W0 hW h0 => ⟨by have := BYL.out; omega, hmb, .inl (by rw [BYL.out]; exact (hb.below hW).more h0)⟩
      have LV : Hid (∀ x ∈ Rsp.allV n p L1 xss, x.length = L1) := hVL
      have hVLs : Hid (∀ x ∈ Rsp.allV n p L1 xss, x.length ≤ 1000000) := fun x hx => by rw [hVL x hx]; omega
      generalize Rsp.allV n p L1 xss = V at *
      generalize Rsp.timesP p n L1 (cauC n) xss = Y at *
      obtain ⟨i0, hi, hz0, hz1, hz2⟩ := info_parts info_u8
      replace hi := Lib.hid hi; replace hz0 := Lib.hid hz0; replace hz1 := Lib.hid hz1; replace hz2 := Lib.hid hz2
      obtain ⟨i1, hi_, hy0, hy1, hy2⟩ := info_parts info_row8
      replace hi_ := Lib.hid hi_; replace hy0 := Lib.hid hy0; replace hy1 := Lib.hid hy1; replace hy2 := Lib.hid hy2
      obtain ⟨i3, hk, hw0, hw1, hw2⟩ := info_parts info_bool
      replace hk := Lib.hid hk; replace hw0 := Lib.hid hw0; replace hw1 := Lib.hid hw1; replace hw2 := Lib.hid hw2
      clear h hl hga hs hb hgp hsm h1 ha hal hLe hm1 hpa hri hVL hlb hmb hcm
      replace hnp := Lib.hid hnp
      replace hVl := Lib.hid hVl
      go_enter Try.func6, Try.ntmps6
      go_wp2_with fail; refine (rsAlive_any _).mono ?_; rintro e w1 ⟨rfl, hB1⟩
      replace hB1 := Lib.hid hB1
      go_wp2_with fail; refine (KG.out _ hB1.out).mono ?_; rintro e w' ⟨rfl, rfl⟩

      go_wp2_with fail; refine (KA.out _ hB1.out).mono ?_; rintro e w2 ⟨rfl, hD⟩
      have hB2 := Lib.hid (below_then hB1.out (hD.below _))
      clear hD hB1

      go_wp2_with fail; refine (KP.out _ hB2.out).mono ?_; rintro e wP ⟨AY, cY, rfl, hlY, hB3⟩
      have HBP := Lib.hid (below_then hB2.out hB3)
      have HY := Lib.hid hlY.rows8
      clear hlY hB3 hB2 KP KA KG
      have ROWp : Hid (∀ W, Below wP.heap.size wP W → ∀ i, i < p → ∃ x ad Ai ci, AY = some ad ∧ V[n + i]? = some x ∧ W.cell? (ad.add i) = some (.slice Ai L1 ci) ∧ Reads W W.heap.size 1 Ai L1 (x.map B8)) := fun W hW i hi => by
        obtain ⟨ad, x, Ai, ci, hA, hx, hc, -, -, hr⟩ := ((HY.out.below hW).more hW.size).rowr hi
        have e := VP.out i x hx
        have e2 := LV.out x (List.mem_of_getElem? e)
        rw [e2] at hc hr
        exact ⟨x, ad, Ai, ci, hA, e, hc, hr⟩
      go_wp2_with fail
      go_loopw [12, 13, 14, 15] (fun v12 v13 v14 v15 wr => ∃ (i c12 c13 c14 : Nat) (A12 A13 A14 : Option Addr), v12 = .slice A12 i c12 ∧ v13 = .slice A13 i c13 ∧ v14 = .slice A14 i c14 ∧ v15 = .int .i64 i ∧ i ≤ q ∧ Hid (Below wP.heap.size wP wr) ∧ Hid (Lists wr wP.heap.size wP.heap.size A12 i c12 (V.take i)) ∧ Hid (Lists wr wP.heap.size wP.heap.size A13 i c13 (V.take i)) ∧ Hid (wr.ownsRow wP.heap.size 4 1 (.slice A14 i c14) i ((List.replicate i true).map Value.bool)) ∧ Hid (Apart A12 A13)) (fun _ _ _ v15 _ => q - (intOf v15).toNat)
      case atStart => exact ⟨0, 0, 0, 0, none, none, none, rfl, rfl, rfl, rfl, by omega, Below.refl _ _, by rw [List.take_zero]; exact Lists.nil _ _ _ (Nat.le_refl _) (Nat.le_refl _), by rw [List.take_zero]; exact Lists.nil _ _ _ (Nat.le_refl _) (Nat.le_refl _), World.ownsRow_nil _ _ _ 1, fun g h => by cases h⟩
      case round =>
        obtain ⟨i, c12, c13, c14, A12, A13, A14, rfl, rfl, rfl, rfl, hiq, HB, HW, HN, HO, hne⟩ := hrel
        have HBw := Lib.hid (below_then HBP.out HB.out)
        by_cases hlt : i < q
        · have hlt' : (i : Int) < (q : Int) := by omega
          have hc1 : i + 1 ≤ maxLen := by unfold maxLen; omega
          have hc2 : (i + 1) * 24 ≤ 140737488355328 := by omega
          have hb3 : (i + 1) * 1 ≤ 140737488355328 := by omega
          have hb1 : 0 + L1 ≤ maxLen := by unfold maxLen; omega
          have hb2 : (0 + L1) * 1 ≤ 140737488355328 := by omega
          by_cases hin : i < n
          · have hin' : (i : Int) < (n : Int) := by omega
            obtain ⟨xi, ad, Ai, ci, hA, hxi, hxl, ei, hr⟩ := ROWd.out wr HBw.out i hin
            subst hA
            have ei2 : ∀ o, (wr.alloc o).cell? (ad.add i) = some (.slice Ai L1 ci) := fun o => (World.cell?_alloc_lt wr o (ad.add i) (lt_of_cell ei)).trans ei
            have TK : Hid (V.take (i + 1) = V.take i ++ [xi]) := by unfold Hid; rw [List.take_add_one, hxi]; rfl
            have hln := Lib.hid hxl
            replace hr := Lib.hid hr
            clear hxi hxl
            go_wp2_with (first | (at_builtin; refine wpList_append_any _ rfl (.tmp 81) (.tmp 85) 35 rfl wr.heap.size 5 i0 (.int .u8 0) 1 1 Try.underlying35 hi.out hz0.out hz1.out hz2.out rfl (by omega) (some ⟨wr.heap.size, 0, none⟩) 0 0 [] rfl (own_empty wr _ _ (Nat.le_refl _)) wr.heap.size Ai L1 ci _ rfl ((hr.out).alloc (Nat.le_refl _) _) (row_one hr.out) hb1 hb2 (below_alloc (Below.refl _ wr) _).size ?_; intro A7 c7 w7 ho7 hgq _hsq; have hB7r := below_app (below_alloc (Below.refl _ wr) (.cells #[] 5)) hgq (own_empty wr _ _ (Nat.le_refl _)) (below_alloc (Below.refl _ wr) _).size; have ho7' : w7.ownsRow wr.heap.size 5 1 (.slice A7 L1 c7) L1 (xi.map B8) := own_len0 ho7; have HB7 := Lib.hid (below_then HB.out hB7r); have HW7 := Lib.hid (HW.out.below hB7r); have HN7 := Lib.hid (HN.out.below hB7r); have HO7 := Lib.hid (own_belowL HO.out hB7r); have hR7 := Lib.hid (RowOK.own (b0 := wP.heap.size) (own_base ho7' HB.out.size)); clear ho7 ho7' hgq _hsq hB7r; have hLa := HW7.out.below ((Below.refl _ w7).alloc (Nat.le_refl _) (.cells #[.slice A7 L1 c7] 35)); have hRa1 := RowOK.below (hR7.out.2) HW7.out.b0s HW7.out.bs ((Below.refl _ w7).alloc (Nat.le_refl _) (.cells #[.slice A7 L1 c7] 35)); obtain ⟨⟨vs1, hu1, hv12, hv13⟩, hvb1, hv10⟩ := hLa; replace hRa1 := Lib.hid hRa1; replace hu1 := Lib.hid hu1; replace hv12 := Lib.hid hv12; replace hv13 := Lib.hid hv13; replace hvb1 := Lib.hid hvb1; replace hv10 := Lib.hid hv10) | (at_builtin; refine wpList_append_any _ rfl (.tmp 96) (.tmp 98) 22 rfl wP.heap.size 35 i1 (.slice none 0 0) 1 24 Try.underlying22 hi_.out hy0.out hy1.out hy2.out rfl (by omega) A12 i c12 _ rfl hu1.out (w7.heap.size + 1) _ 1 1 _ rfl (reads_one w7 _ _) (one_one rfl) hc1 hc2 hvb1.out ?_; intro A1 c1 w8 ho1 hgq hsq; have hB1 : Below wP.heap.size wP w8 := below_app (HB7.out.alloc HB7.out.size (.cells #[.slice A7 L1 c7] 35)) hgq hu1.out hvb1.out; have hP1 := Lists.pushN hln.out hRa1.out hu1.out hv12.out hv13.out hv10.out hvb1.out ho1 hgq; have HN2 := Lib.hid (Lists.beside (HN7.out.below ((Below.refl _ w7).alloc (Nat.le_refl _) (.cells #[.slice A7 L1 c7] 35))) hu1.out hne.out (Nat.le_refl _) hgq); have hR2 := Lib.hid (RowOK.beside (RowOK.below hR7.out.2 (Nat.le_refl _) HB7.out.size ((Below.refl _ w7).alloc (Nat.le_refl _) (.cells #[.slice A7 L1 c7] 35))) (Nat.le_refl _) hvb1.out hu1.out (Nat.le_refl _) hgq); have HO2 := Lib.hid (own_apart (HO7.out.alloc (.cells #[.slice A7 L1 c7] 35)) hu1.out (by decide) hgq); have hne2 := Lib.hid (Apart.grow hne.out (fun g hg => Nat.lt_of_lt_of_le (lists_lt HN7.out g hg) (by simp)) hsq); have hLa := HN2.out.below ((Below.refl _ w8).alloc (Nat.le_refl _) (.cells #[.slice A7 L1 c7] 35)); have hRa2 := RowOK.below (hR2.out) HN2.out.b0s HN2.out.bs ((Below.refl _ w8).alloc (Nat.le_refl _) (.cells #[.slice A7 L1 c7] 35)); obtain ⟨⟨vs2, hu2, hv22, hv23⟩, hvb2, hv20⟩ := hLa; replace hRa2 := Lib.hid hRa2; replace hu2 := Lib.hid hu2; replace hv22 := Lib.hid hv22; replace hv23 := Lib.hid hv23; replace hvb2 := Lib.hid hvb2; replace hv20 := Lib.hid hv20; replace hB1 := Lib.hid hB1; replace hP1 := Lib.hid hP1; clear hgq hsq ho1 hu1 hv12 hv13 hvb1 hv10 hRa1) | (at_builtin; refine wpList_append_any _ rfl (.tmp 100) (.tmp 102) 22 rfl wP.heap.size 35 i1 (.slice none 0 0) 1 24 Try.underlying22 hi_.out hy0.out hy1.out hy2.out rfl (by omega) A13 i c13 _ rfl hu2.out (w8.heap.size + 1) _ 1 1 _ rfl (reads_one w8 _ _) (one_one rfl) hc1 hc2 hvb2.out ?_; intro A2 c2 w9 ho2 hgq hsq; have hB2 : Below wP.heap.size wP w9 := below_app (hB1.out.alloc hB1.out.size (.cells #[.slice A7 L1 c7] 35)) hgq hu2.out hvb2.out; have hP2 := Lists.pushN hln.out hRa2.out hu2.out hv22.out hv23.out hv20.out hvb2.out ho2 hgq; have HW3 := Lib.hid (Lists.beside (hP1.out.below ((Below.refl _ w8).alloc (Nat.le_refl _) (.cells #[.slice A7 L1 c7] 35))) hu2.out hne2.out.sym (Nat.le_refl _) hgq); have HO3 := Lib.hid (own_apart (HO2.out.alloc (.cells #[.slice A7 L1 c7] 35)) hu2.out (by decide) hgq); have hne3 := Lib.hid (Apart.grow hne2.out.sym (fun g hg => Nat.lt_of_lt_of_le (lists_lt hP1.out g hg) (by simp)) hsq).sym; replace hB2 := Lib.hid hB2; replace hP2 := Lib.hid hP2; clear hgq hsq ho2 hu2 hv22 hv23 hvb2 hv20 hRa2) | (at_builtin; refine wpList_append_any _ rfl (.tmp 104) (.tmp 105) 32 rfl wP.heap.size 4 i3 (.bool false) 1 1 Try.underlying32 hk.out hw0.out hw1.out hw2.out rfl (by omega) A14 i c14 _ rfl (HO3.out.alloc (.cells #[.bool true] 4)) (w9.heap.size + 1) _ 1 1 _ rfl (reads_one w9 _ _) (one_one rfl) hc1 hb3 (show wP.heap.size ≤ (w9.alloc (.cells #[.bool true] 4)).heap.size from Nat.le_trans hB2.out.size (by simp)) ?_; intro A4 c4 w10 ho10 hgq _hsq; have hB10 : Below wP.heap.size wP w10 := below_app (hB2.out.alloc hB2.out.size (.cells #[.bool true] 4)) hgq (HO3.out.alloc (.cells #[.bool true] 4)) (show wP.heap.size ≤ (w9.alloc (.cells #[.bool true] 4)).heap.size from Nat.le_trans hB2.out.size (by simp)); have HW10 := Lib.hid (Lists.apart (HW3.out.below ((Below.refl _ w9).alloc (Nat.le_refl _) (.cells #[.bool true] 4))) (HO3.out.alloc (.cells #[.bool true] 4)) (by decide) (by decide) (Nat.le_refl _) hgq); have HN10 := Lib.hid (Lists.apart (hP2.out.below ((Below.refl _ w9).alloc (Nat.le_refl _) (.cells #[.bool true] 4))) (HO3.out.alloc (.cells #[.bool true] 4)) (by decide) (by decide) (Nat.le_refl _) hgq); replace hB10 := Lib.hid hB10; replace ho10 := Lib.hid ho10; clear hgq _hsq))
            go_roundw
            case rel => exact ⟨i + 1, c1, c2, c4, A1, A2, A4, rfl, rfl, rfl, by go_num, by omega, hB10, by rw [TK.out]; exact HW10.out, by rw [TK.out]; exact HN10.out, by rw [List.replicate_succ', List.map_append]; exact ho10.out, hne3⟩
            case measure => simp [intOf]; omega
          · have hin' : (n : Int) ≤ (i : Int) := by omega
            obtain ⟨t, ht⟩ : ∃ t, i = n + t := ⟨i - n, by omega⟩
            have htp : t < p := by have := hnp.out; omega
            have htp' : (t : Int) < (p : Int) := by omega
            have ht0 : (0 : Int) ≤ (t : Int) := by omega
            have hsub : (i : Int) - (n : Int) = (t : Int) := by omega
            have hsubw : IntKind.i64.wrap ((i : Int) - (n : Int)) = (t : Int) := by rw [hsub, IntKind.wrap_i64]; omega
            obtain ⟨xi, ad, Ai, ci, hA, hxi, ei, hr⟩ := ROWp.out wr HB.out t htp
            subst hA
            have ei2 : ∀ o, (wr.alloc o).cell? (ad.add t) = some (.slice Ai L1 ci) := fun o => (World.cell?_alloc_lt wr o (ad.add t) (lt_of_cell ei)).trans ei
            have TK : Hid (V.take (i + 1) = V.take i ++ [xi]) := by unfold Hid; rw [List.take_add_one, ht, hxi]; rfl
            have hln := Lib.hid (LV.out xi (List.mem_of_getElem? hxi))
            replace hr := Lib.hid hr
            replace ht := Lib.hid ht
            clear hxi
            go_wp2_with (first | (at_builtin; refine wpList_append_any _ rfl (.tmp 87) (.tmp 94) 35 rfl wr.heap.size 5 i0 (.int .u8 0) 1 1 Try.underlying35 hi.out hz0.out hz1.out hz2.out rfl (by omega) (some ⟨wr.heap.size, 0, none⟩) 0 0 [] rfl (own_empty wr _ _ (Nat.le_refl _)) wr.heap.size Ai L1 ci _ rfl ((hr.out).alloc (Nat.le_refl _) _) (row_one hr.out) hb1 hb2 (below_alloc (Below.refl _ wr) _).size ?_; intro A7 c7 w7 ho7 hgq _hsq; have hB7r := below_app (below_alloc (Below.refl _ wr) (.cells #[] 5)) hgq (own_empty wr _ _ (Nat.le_refl _)) (below_alloc (Below.refl _ wr) _).size; have ho7' : w7.ownsRow wr.heap.size 5 1 (.slice A7 L1 c7) L1 (xi.map B8) := own_len0 ho7; have HB7 := Lib.hid (below_then HB.out hB7r); have HW7 := Lib.hid (HW.out.below hB7r); have HN7 := Lib.hid (HN.out.below hB7r); have HO7 := Lib.hid (own_belowL HO.out hB7r); have hR7 := Lib.hid (RowOK.own (b0 := wP.heap.size) (own_base ho7' HB.out.size)); clear ho7 ho7' hgq _hsq hB7r; have hLa := HW7.out.below ((Below.refl _ w7).alloc (Nat.le_refl _) (.cells #[.slice A7 L1 c7] 35)); have hRa1 := RowOK.below (hR7.out.2) HW7.out.b0s HW7.out.bs ((Below.refl _ w7).alloc (Nat.le_refl _) (.cells #[.slice A7 L1 c7] 35)); obtain ⟨⟨vs1, hu1, hv12, hv13⟩, hvb1, hv10⟩ := hLa; replace hRa1 := Lib.hid hRa1; replace hu1 := Lib.hid hu1; replace hv12 := Lib.hid hv12; replace hv13 := Lib.hid hv13; replace hvb1 := Lib.hid hvb1; replace hv10 := Lib.hid hv10) | (at_builtin; refine wpList_append_any _ rfl (.tmp 96) (.tmp 98) 22 rfl wP.heap.size 35 i1 (.slice none 0 0) 1 24 Try.underlying22 hi_.out hy0.out hy1.out hy2.out rfl (by omega) A12 i c12 _ rfl hu1.out (w7.heap.size + 1) _ 1 1 _ rfl (reads_one w7 _ _) (one_one rfl) hc1 hc2 hvb1.out ?_; intro A1 c1 w8 ho1 hgq hsq; have hB1 : Below wP.heap.size wP w8 := below_app (HB7.out.alloc HB7.out.size (.cells #[.slice A7 L1 c7] 35)) hgq hu1.out hvb1.out; have hP1 := Lists.pushN hln.out hRa1.out hu1.out hv12.out hv13.out hv10.out hvb1.out ho1 hgq; have HN2 := Lib.hid (Lists.beside (HN7.out.below ((Below.refl _ w7).alloc (Nat.le_refl _) (.cells #[.slice A7 L1 c7] 35))) hu1.out hne.out (Nat.le_refl _) hgq); have hR2 := Lib.hid (RowOK.beside (RowOK.below hR7.out.2 (Nat.le_refl _) HB7.out.size ((Below.refl _ w7).alloc (Nat.le_refl _) (.cells #[.slice A7 L1 c7] 35))) (Nat.le_refl _) hvb1.out hu1.out (Nat.le_refl _) hgq); have HO2 := Lib.hid (own_apart (HO7.out.alloc (.cells #[.slice A7 L1 c7] 35)) hu1.out (by decide) hgq); have hne2 := Lib.hid (Apart.grow hne.out (fun g hg => Nat.lt_of_lt_of_le (lists_lt HN7.out g hg) (by simp)) hsq); have hLa := HN2.out.below ((Below.refl _ w8).alloc (Nat.le_refl _) (.cells #[.slice A7 L1 c7] 35)); have hRa2 := RowOK.below (hR2.out) HN2.out.b0s HN2.out.bs ((Below.refl _ w8).alloc (Nat.le_refl _) (.cells #[.slice A7 L1 c7] 35)); obtain ⟨⟨vs2, hu2, hv22, hv23⟩, hvb2, hv20⟩ := hLa; replace hRa2 := Lib.hid hRa2; replace hu2 := Lib.hid hu2; replace hv22 := Lib.hid hv22; replace hv23 := Lib.hid hv23; replace hvb2 := Lib.hid hvb2; replace hv20 := Lib.hid hv20; replace hB1 := Lib.hid hB1; replace hP1 := Lib.hid hP1; clear hgq hsq ho1 hu1 hv12 hv13 hvb1 hv10 hRa1) | (at_builtin; refine wpList_append_any _ rfl (.tmp 100) (.tmp 102) 22 rfl wP.heap.size 35 i1 (.slice none 0 0) 1 24 Try.underlying22 hi_.out hy0.out hy1.out hy2.out rfl (by omega) A13 i c13 _ rfl hu2.out (w8.heap.size + 1) _ 1 1 _ rfl (reads_one w8 _ _) (one_one rfl) hc1 hc2 hvb2.out ?_; intro A2 c2 w9 ho2 hgq hsq; have hB2 : Below wP.heap.size wP w9 := below_app (hB1.out.alloc hB1.out.size (.cells #[.slice A7 L1 c7] 35)) hgq hu2.out hvb2.out; have hP2 := Lists.pushN hln.out hRa2.out hu2.out hv22.out hv23.out hv20.out hvb2.out ho2 hgq; have HW3 := Lib.hid (Lists.beside (hP1.out.below ((Below.refl _ w8).alloc (Nat.le_refl _) (.cells #[.slice A7 L1 c7] 35))) hu2.out hne2.out.sym (Nat.le_refl _) hgq); have HO3 := Lib.hid (own_apart (HO2.out.alloc (.cells #[.slice A7 L1 c7] 35)) hu2.out (by decide) hgq); have hne3 := Lib.hid (Apart.grow hne2.out.sym (fun g hg => Nat.lt_of_lt_of_le (lists_lt hP1.out g hg) (by simp)) hsq).sym; replace hB2 := Lib.hid hB2; replace hP2 := Lib.hid hP2; clear hgq hsq ho2 hu2 hv22 hv23 hvb2 hv20 hRa2) | (at_builtin; refine wpList_append_any _ rfl (.tmp 104) (.tmp 105) 32 rfl wP.heap.size 4 i3 (.bool false) 1 1 Try.underlying32 hk.out hw0.out hw1.out hw2.out rfl (by omega) A14 i c14 _ rfl (HO3.out.alloc (.cells #[.bool true] 4)) (w9.heap.size + 1) _ 1 1 _ rfl (reads_one w9 _ _) (one_one rfl) hc1 hb3 (show wP.heap.size ≤ (w9.alloc (.cells #[.bool true] 4)).heap.size from Nat.le_trans hB2.out.size (by simp)) ?_; intro A4 c4 w10 ho10 hgq _hsq; have hB10 : Below wP.heap.size wP w10 := below_app (hB2.out.alloc hB2.out.size (.cells #[.bool true] 4)) hgq (HO3.out.alloc (.cells #[.bool true] 4)) (show wP.heap.size ≤ (w9.alloc (.cells #[.bool true] 4)).heap.size from Nat.le_trans hB2.out.size (by simp)); have HW10 := Lib.hid (Lists.apart (HW3.out.below ((Below.refl _ w9).alloc (Nat.le_refl _) (.cells #[.bool true] 4))) (HO3.out.alloc (.cells #[.bool true] 4)) (by decide) (by decide) (Nat.le_refl _) hgq); have HN10 := Lib.hid (Lists.apart (hP2.out.below ((Below.refl _ w9).alloc (Nat.le_refl _) (.cells #[.bool true] 4))) (HO3.out.alloc (.cells #[.bool true] 4)) (by decide) (by decide) (Nat.le_refl _) hgq); replace hB10 := Lib.hid hB10; replace ho10 := Lib.hid ho10; clear hgq _hsq))
            go_roundw
            case rel => exact ⟨i + 1, c1, c2, c4, A1, A2, A4, rfl, rfl, rfl, by go_num, by omega, hB10, by rw [TK.out]; exact HW10.out, by rw [TK.out]; exact HN10.out, by rw [List.replicate_succ', List.map_append]; exact ho10.out, hne3⟩
            case measure => simp [intOf]; omega
        · have hge : (q : Int) ≤ (i : Int) := by omega
          obtain rfl : i = q := by omega
          rw [List.take_of_length_le (by rw [hVl.out]; omega)] at HW HN
          have hi1 : 0 < i := by have := hnp.out; omega
          obtain ⟨g13, rfl, hg13⟩ : ∃ g13, A13 = some ⟨g13, 0, none⟩ ∧ wP.heap.size ≤ g13 := by
            obtain ⟨g, cap, hv, hb, _⟩ := HN.out.ex.choose_spec.1.form hi1
            exact ⟨g, by injection hv, hb⟩
          obtain ⟨g14, rfl, hg14⟩ : ∃ g14, A14 = some ⟨g14, 0, none⟩ ∧ wP.heap.size ≤ g14 := by
            obtain ⟨g, cap, hv, hb, _⟩ := HO.out.form hi1
            exact ⟨g, by injection hv, hb⟩
          have HBY2 : Hid (∀ W, Below wP.heap.size wP W → RowOK W wP.heap.size wP.heap.size Ab cb by_) := fun W hW => HBY.out W _ (below_then HBP.out hW) HBP.out.size
          clear ROWd ROWp HBw i0 hi hz0 hz1 hz2 i1 hi_ hy0 hy1 hy2 i3 hk hw0 hw1 hw2
          go_wp2_with fail
          have SPq : Hid (Rsp.Spoilt i 0 V (List.replicate i true) V) := SP0
          have SUM : Hid (∀ x ∈ V, x.length ≤ 1000000) := hVLs
          go_loopw [17, 18] (fun v17 v18 wr => ∃ (j n1 : Nat) (fl : List Bool) (nw : List (List UInt8)), v17 = .int .i64 n1 ∧ v18 = .int .i64 j ∧ j ≤ ns ∧ n1 ≤ p ∧ Hid (Below wP.heap.size wP wr) ∧ Hid (Lists wr wP.heap.size wP.heap.size A12 i c12 V) ∧ Hid (Lists wr wP.heap.size wP.heap.size (some ⟨g13, 0, none⟩) i c13 nw) ∧ Hid (wr.ownsRow wP.heap.size 4 1 (.slice (some ⟨g14, 0, none⟩) i c14) i (fl.map Value.bool)) ∧ Hid (Rsp.Spoilt i n1 V fl nw) ∧ Hid (∀ x ∈ nw, x.length ≤ 1000000)) (fun _ v18 _ => ns - (intOf v18).toNat)
          case atStart => exact ⟨0, 0, List.replicate i true, V, rfl, rfl, by omega, by omega, HB, HW, HN, HO, SPq, SUM⟩
          case round =>
            clear HB HW HN HO SPq SUM SP0
            obtain ⟨j, n1, fl, nw, rfl, rfl, hjn, hn1, HB, HW, HN, HO, SP, SM⟩ := hrel
            have HBw := Lib.hid (below_then HBP.out HB.out)
            have hcase : (j < ns ∧ n1 < p) ∨ (j < ns ∧ p ≤ n1) ∨ ns ≤ j := by omega
            rcases hcase with ⟨hj, hlp⟩ | hend
            · have hj' : (j : Int) < (ns : Int) := by omega
              have hlp' : (n1 : Int) < (p : Int) := by omega
              obtain ⟨ad, b, hA, _, hb1, eb⟩ := HS.out wr HBw.out j hj
              subst hA
              obtain ⟨a, ha⟩ : ∃ a, a = b.toNat % i := ⟨_, rfl⟩
              have hai : a < i := by rw [ha]; exact Nat.mod_lt _ hi1
              have hmod : (b.toNat : Int) % (i : Int) = (a : Int) := by rw [ha, Int.natCast_emod]
              have ub := b.toNat_lt
              have hai' : (a : Int) < (i : Int) := by omega
              have hi1' : (0 : Int) < (i : Int) := by omega
              have hinz : ((i : Int) == 0) = false := by simp; omega
              replace ha := Lib.hid ha
              clear hb1
              generalize b.toNat = bn at *
              have hfa : fl.length = i := SP.out.fl_len
              obtain ⟨f, hf⟩ : ∃ f, fl[a]? = some f := ⟨fl[a]'(by omega), List.getElem?_eq_getElem _⟩
              have ef : wr.cell? ⟨g14, a, none⟩ = some (.bool f) := by rw [HO.out.cellAt a (by omega), List.getElem?_map, hf]; rfl
              have hfg : fl.getD a false = f := by rw [List.getD_eq_getElem?_getD, hf]; rfl
              replace hfa := Lib.hid hfa
              cases f with
              | false =>
                replace hfg := Lib.hid hfg; replace hf := Lib.hid hf
                go_wp2_with fail
                go_roundw
                case rel => exact ⟨j + 1, n1, fl, nw, rfl, by go_num, by omega, by omega, HB, HW, HN, HO, SP, SM⟩
                case measure => simp [intOf]; omega
              | true =>
                have SP2 := Lib.hid (SP.out.spoil (by_ := by_) hai hfg)
                have fz := HO.out.frozenAt a
                obtain ⟨cs1, fr1, hh1⟩ := own_row HO.out g14 rfl
                obtain ⟨cs3, fr3, hh3⟩ := own_row HN.out.ex.choose_spec.1 g13 rfl
                have hg34 : g13 ≠ g14 := fun e => by
                  rw [e, hh1] at hh3
                  injection hh3 with hh3
                  injection hh3 with _ ht
                  exact absurd ht (by decide)
                have hW14 : A12.map (·.block) ≠ some g14 := fun e => by
                  obtain ⟨cs5, fr5, hh5⟩ := own_row HW.out.ex.choose_spec.1 g14 e
                  rw [hh1] at hh5
                  injection hh5 with hh5
                  injection hh5 with _ ht
                  exact absurd ht (by decide)
                have hW13 : A12.map (·.block) ≠ some g13 := fun e => hne.out g13 e rfl
                have HW1 := Lib.hid (Lists.far (W' := wr.setCell ⟨g14, a, none⟩ (.bool false)) HW.out hg14 hW14 ⟨cs1, fr1, _, hh1, by decide⟩ (fun k _ hk => Below.heap_setCell wr _ _ k (fun e => hk (by simpa using e))) (by simp))
                have HN1 := Lib.hid (Lists.far (W' := wr.setCell ⟨g14, a, none⟩ (.bool false)) HN.out hg14 (by simpa using hg34) ⟨cs1, fr1, _, hh1, by decide⟩ (fun k _ hk => Below.heap_setCell wr _ _ k (fun e => hk (by simpa using e))) (by simp))
                have HO1 := Lib.hid ((HO.out.stored a (.bool false)).1)
                have HB1' := Lib.hid (HB.out.setCell (p := ⟨g14, a, none⟩) hg14 (.bool false))
                obtain ⟨⟨v13, hv13⟩, fz13⟩ := HN1.out.slot hai
                obtain ⟨cs6, fr6, hh6⟩ := own_row HN1.out.ex.choose_spec.1 g13 rfl
                have HW2 := Lib.hid (Lists.far (W' := (wr.setCell ⟨g14, a, none⟩ (.bool false)).setCell ⟨g13, a, none⟩ (.slice Ab nb cb)) HW1.out hg13 hW13 ⟨cs6, fr6, _, hh6, by decide⟩ (fun k _ hk => Below.heap_setCell _ _ _ k (fun e => hk (by simpa using e))) (by simp))
                have HN2 := Lib.hid (HN1.out.setN (ci := cb) hai BYL.out (HBY2.out _ HB1'.out))
                have HO2 : Hid (World.ownsRow ((wr.setCell ⟨g14, a, none⟩ (.bool false)).setCell ⟨g13, a, none⟩ (.slice Ab nb cb)) wP.heap.size 4 1 (.slice (some ⟨g14, 0, none⟩) i c14) i ((fl.set a false).map Value.bool)) := by
                  rw [Hid, List.map_set]
                  exact ownsRow_block HO1.out fun x hx => by injection hx with hx; subst hx; exact Below.heap_setCell _ _ _ _ (fun e => hg34 (by simpa using e.symm))
                have HB2' := Lib.hid (HB1'.out.setCell (p := ⟨g13, a, none⟩) hg13 (.slice Ab nb cb))
                have SM2 : Hid (∀ x ∈ nw.set a by_, x.length ≤ 1000000) := fun x hx => by
                  rcases List.mem_or_eq_of_mem_set hx with h | h
                  · exact SM.out x h
                  · rw [h, BYL.out]; omega
                replace hfg := Lib.hid hfg; replace hf := Lib.hid hf
                clear hh1 hh3 hh6 hW14 hW13 HW1 HN1 HO1 HB1' HW HN HO HB SP SM HBw
                go_wp2_with fail
                go_roundw
                case rel => exact ⟨j + 1, n1 + 1, _, _, by go_num, by go_num, by omega, by omega, HB2', HW2, HN2, HO2, SP2, SM2⟩
                case measure => simp [intOf]; omega
            · have KM1 := Lib.hid (KM.out wr (some ⟨g13, 0, none⟩) (some ⟨g14, 0, none⟩) c13 c14 n1 fl nw SP.out hn1 HN.out.rows8 SM.out (Reads.of_own HO.out))
              clear KM HS HBY HBY2
              rcases hend with ⟨hj, hlp⟩ | hj
              all_goals
                have hj' : ((j : Int) < (ns : Int) ∧ (p : Int) ≤ (n1 : Int)) ∨ (ns : Int) ≤ (j : Int) := by omega
                rcases hj' with ⟨hj1, hj2⟩ | hj1
                all_goals
                  first
                    | (exfalso; omega)
                    | (go_wp2_with fail
                       refine KM1.out.mono ?_; rintro e wM ⟨AM, cM, rfl, hlM, hBM⟩
                       have HBM := Lib.hid (below_then HBw.out hBM)
                       have HWM := Lib.hid (HW.out.below hBM)
                       have KS1 := Lib.hid (KS.out wM AM A12 cM c12 hlM.rows8 HWM.out.rows8)
                       clear hlM hBM KM1
                       go_wp2_with fail
                       refine KS1.out.mono ?_; rintro e wS ⟨rfl, hD⟩
                       have HBS := Lib.hid (below_then HBM.out (hD.below _))
                       have KR1 := Lib.hid (KR.out wS A12 c12 _ _ (HWM.out.below (hD.below _)))
                       clear hD KS1
                       go_wp2_with fail
                       refine KR1.out.mono ?_; rintro e wR ⟨rfl, hBR⟩
                       have HBR := Lib.hid (below_then HBS.out hBR)
                       clear hBR KR1
                       go_wp2_with fail
                       go_ret
                       exact ⟨rfl, HBR.out⟩)
end Go.Proofs.Ytjbedcgacnnanaa
