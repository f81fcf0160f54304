/-
  The document's Lay, walked.
-/
import Derived.Test.YtjbedcgacnnanaaDoorSth
namespace Go.Proofs.YtjbedcgacnnanaaDoor
set_option linter.unusedSimpArgs false
set_option linter.unusedVariables false
open Go.RowKit

theorem Stp.num_lt_of {d n t : Nat} (hd : 1 ≤ d) (h : t < Stp.num d n) : t * d < n := by
  unfold Stp.num at h
  have := (Nat.le_div_iff_mul_le (show 0 < d by omega)).1 (show t + 1 ≤ (n + d - 1) / d from h)
  rw [Nat.succ_mul] at this; omega
theorem Shp.lt {k m ch n S d L N T t : Nat} (h : Shp k m ch n S d L N T) (ht : t < S) : t * d < n := by
  have hd := Stp.data_pos h.k1 h.c1
  have h1 := h.hS
  rw [h.hd]
  exact Stp.num_lt_of hd (h1 ▸ ht)
set_option maxRecDepth 100000 in
set_option maxHeartbeats 8000000 in
theorem refLay_in (k m ch n S d L N T : Nat) (A : Option Addr) (c : Nat) (bs : List UInt8) (w : World) (sh : Shp k m ch n S d L N T) (hp : 0 < w.heap.size) (hr : Reads w w.heap.size 1 A n (bs.map B8)) (hnc : n ≤ c) (hcm : c ≤ maxLen) :
    Calls Tryd.prog 13 #[.int .i64 k, .int .i64 m, .int .i64 ch, .slice A n c] w (SlErrN 5 w T (Stp.layV k m ch bs) 0) := by
  have hok : Stp.ok k m ch n = true := Stp.ok_of sh.k1 sh.km sh.c1 sh.c2 sh.n2
  have hsz : Stp.size k m ch n = T := by unfold Stp.size; rw [sh.hT, sh.hS, sh.hL]
  have hse := Stp.sizeE_in hok (by rw [hsz]; exact sh.t2)
  have KSz : Hid (Calls Tryd.prog 11 #[.int .i64 k, .int .i64 m, .int .i64 ch, .int .i64 n] w fun e w' => e = .returned (.tuple #[.int .i64 (T : Nat), .int .i64 0]) ∧ w = w') := by
    have := refSize_any k m ch n w
    rw [hse.1, hse.2, hsz] at this
    exact this
  have d1 := sh.d1
  have d2 := sh.d2
  have N2 := sh.N2
  have nN := sh.nN
  have S2 := sh.S2
  have t2 := sh.t2
  have k1 := sh.k1
  have km := sh.km
  have c1' := sh.c1
  have c2' := sh.c2
  have SH := Lib.hid sh
  have RB := Lib.hid (fun W (hW : Below w.heap.size w W) => hr.below hW)
  have hm0 : (k : Int) * (ch : Int) = (d : Int) := by rw [sh.hd, Int.natCast_mul]
  have BL : Hid (bs.length = n) := hr.len
  obtain ⟨P, hP⟩ : ∃ P, Stp.padB d bs = P := ⟨_, rfl⟩
  have PL : Hid (P.length = N) := by
    have s := sh
    rw [Hid, ← hP, Stp.padB_len d1, BL.out, s.hN, s.hS, s.hd]
  have PA : Hid (∀ p, p < N → P[p]? = some (Stp.byteAt bs p)) := fun p hp' => by
    rw [← hP]
    exact Stp.padB_at (by rw [hP, PL.out]; exact hp')
  have LAY : Hid (Stp.layB k m ch P S = Stp.layV k m ch bs) := by
    have s := sh
    unfold Stp.layV
    rw [BL.out, ← s.hd, hP, s.hd, ← s.hS]
    exact Lib.hid rfl
  replace hP := Lib.hid hP
  obtain ⟨i0, hi, hz0, hz1, hz2⟩ := info_parts info_u8
  replace hi := Lib.hid hi; replace hz0 := Lib.hid hz0; replace hz1 := Lib.hid hz1; replace hz2 := Lib.hid hz2
  obtain ⟨i1, hi_, hy0, hy1, hy2⟩ := info_parts info_row8
  replace hi_ := Lib.hid hi_; replace hy0 := Lib.hid hy0; replace hy1 := Lib.hid hy1; replace hy2 := Lib.hid hy2
  clear sh hr hok hsz hse
  go_enter Tryd.func13, Tryd.ntmps13
  go_wp2_with fail
  refine KSz.out.mono ?_; rintro e w' ⟨rfl, rfl⟩
  go_wp2_with fail
  go_loopw [12, 13] (fun v12 v13 wr => ∃ (t i M c12 : Nat) (A12 : Option Addr), v12 = .slice A12 M c12 ∧ v13 = .int .i64 (i : Nat) ∧ t ≤ S ∧ i ≤ 9433088 ∧ M ≤ 16777216 ∧ Hid (i = t * d) ∧ Hid (M = t * L) ∧ Hid (Below w.heap.size w wr) ∧ Hid (wr.ownsRow w.heap.size 5 1 (.slice A12 M c12) M ((Stp.layB k m ch P t).map B8))) (fun _ v13 _ => N + 1 - (intOf v13).toNat)
  case atStart => exact ⟨0, 0, 0, 0, none, rfl, rfl, Nat.zero_le _, by omega, by omega, by show 0 = 0 * d; rw [Nat.zero_mul], by show 0 = 0 * L; rw [Nat.zero_mul], Below.refl _ _, by simpa [Hid, Stp.layB] using World.ownsRow_nil w w.heap.size 5 1⟩
  case round =>
    obtain ⟨t, i, M, c12, A12, rfl, rfl, htS, hiN, hM, HI, HM, HB, HO⟩ := hrel
    by_cases hlt : t < S
    · have hin : (i : Int) < (n : Int) := by have := SH.out.lt hlt; have := HI.out; omega
      have hdN := SH.out.dN hlt
      have hLT := SH.out.LT hlt
      have hidN : i + d ≤ N := by have := HI.out; omega
      have hML : M + L ≤ 16777216 := by have := HM.out; omega
      obtain ⟨B, hBe⟩ : ∃ B, (P.drop (t * d)).take d = B := ⟨_, rfl⟩
      have BLn : Hid (B.length = d) := by
        rw [Hid, ← hBe, List.length_take, List.length_drop, PL.out]; omega
      replace hBe := Lib.hid hBe
      clear hdN hLT
      go_wp2_with fail
      go_loopw [12, 14, 15] (fun v12 v14 v15 wr => ∃ (j Mj c12 c14 : Nat) (A12 A14 : Option Addr), v12 = .slice A12 Mj c12 ∧ v14 = .slice A14 j c14 ∧ v15 = .int .i64 (j : Nat) ∧ j ≤ k ∧ Mj ≤ 16777216 ∧ Hid (Mj = M + j * (ch + 4)) ∧ Hid (Below w.heap.size w wr) ∧ Hid (wr.ownsRow w.heap.size 5 1 (.slice A12 Mj c12) Mj ((Stp.layB k m ch P t ++ ((Stp.partsB j ch B).map Crcp.put).flatten).map B8)) ∧ Hid (Lst wr w.heap.size A14 j c14 (Stp.partsB j ch B) A12)) (fun _ _ v15 _ => k - (intOf v15).toNat)
      case atStart => exact ⟨0, M, c12, 0, A12, none, rfl, rfl, rfl, Nat.zero_le _, hM, by show M = M + 0 * (ch + 4); rw [Nat.zero_mul]; rfl, HB, by simpa [Hid, Stp.partsB] using HO.out, Lst.nil _ _ _ HB.out.size⟩
      case round =>
        clear HB HO
        obtain ⟨j, Mj, c12, c14, A12, A14, rfl, rfl, rfl, hjk, hMj, HMj, HB, HO, HL⟩ := hrel
        by_cases hlt2 : j < k
        · have hlt2' : (j : Int) < (k : Int) := by omega
          obtain ⟨jc, hjc⟩ : ∃ jc, j * ch = jc := ⟨_, rfl⟩
          have hj2 : (j + 1) * ch = jc + ch := by rw [Nat.succ_mul, hjc]
          have hjd : jc + ch ≤ d := by
            have := Nat.mul_le_mul_right ch (show j + 1 ≤ k from hlt2)
            rw [hj2, ← SH.out.hd] at this; exact this
          have hm1 : (j : Int) * (ch : Int) = (jc : Int) := by rw [← hjc, Int.natCast_mul]
          have hm2 : ((j : Int) + 1) * (ch : Int) = ((jc + ch : Nat) : Int) := by rw [← hj2, Int.natCast_mul]; rfl
          obtain ⟨je, hje⟩ : ∃ je, jc + ch = je := ⟨_, rfl⟩
          rw [hje] at hm2
          have hjeb : je ≤ 1044480 := by omega
          have hjcb : jc ≤ 1044480 := by omega
          have hpart : Hid ((P.drop (i + jc)).take ch = Stp.chunkB B ch j) := by
            rw [Hid, ← hBe.out, HI.out, ← hjc]
            exact Stp.part_chunk (by rw [hj2]; exact hjd)
          replace hjc := Lib.hid hjc; replace hje := Lib.hid hje; replace hj2 := Lib.hid hj2
          obtain ⟨W3, hW3⟩ : ∃ W3, W3 = wr := ⟨_, rfl⟩
          subst hW3
          have hszW : w.heap.size ≤ W3.heap.size := HB.out.size
          go_wp2_with fail
          go_loopw [16, 17] (fun v16 v17 wr => ∃ (q p c16 : Nat) (A16 : Option Addr), v16 = .slice A16 q c16 ∧ v17 = .int .i64 (p : Nat) ∧ q ≤ ch ∧ p ≤ 20000000 ∧ Hid (p = i + jc + q) ∧ Hid (Below W3.heap.size W3 wr) ∧ Hid (wr.ownsRow W3.heap.size 5 1 (.slice A16 q c16) q (((P.drop (i + jc)).take q).map B8))) (fun v16 _ _ => ch - lenOfS v16)
          case atStart => exact ⟨0, i + jc, 0, none, rfl, by simp, Nat.zero_le _, by omega, rfl, Below.refl _ _, by simpa [Hid] using World.ownsRow_nil W3 W3.heap.size 5 1⟩
          case round =>
            obtain ⟨q, p, c16, A16, rfl, rfl, hqc, hpN, HP, HB3, HO3⟩ := hrel
            have HJ := Lib.hid (hje.out)
            by_cases hlt3 : q < ch
            · have hlt3' : (p : Int) < (i : Int) + (je : Int) := by have := HP.out; have := HJ.out; omega
              have hps : p < N := by have := HP.out; omega
              have TK : Hid ((P.drop (i + jc)).take (q + 1) = (P.drop (i + jc)).take q ++ [Stp.byteAt bs p]) := by
                rw [Hid]
                exact Stp.part_step (by rw [← HP.out]; exact PA.out p hps)
              have hb1 : q + 1 ≤ maxLen := by unfold maxLen; omega
              have hb2 : (q + 1) * 1 ≤ 140737488355328 := by omega
              have hqn : ch - (q + 1) < ch - q := by omega
              by_cases hpn : p < n
              · have hpn' : (p : Int) < (n : Int) := by omega
                obtain ⟨ad, x, hAd, -, hx, hcell⟩ := (RB.out wr (HB.out.trans (HB3.out.mono hszW))).byte hpn
                have hxe : Hid (Stp.byteAt bs p = x) := by rw [Hid]; unfold Stp.byteAt; rw [List.getD_eq_getElem?_getD, hx]; rfl
                rw [hxe.out] at TK
                clear hx hxe
                subst hAd
                go_wp2_with (at_builtin; refine wpList_append_any _ rfl (.tmp 71) (.tmp 73) 27 rfl W3.heap.size 5 i0 (.int .u8 0) 1 1 Tryd.underlying27 hi.out hz0.out hz1.out hz2.out rfl (by omega) A16 q c16 _ rfl (HO3.out.alloc (.cells #[.int .u8 (x.toNat : Int)] 5)) (wr.heap.size + 1) _ 1 1 _ rfl (reads_one wr _ _) (one_one rfl) hb1 hb2 (show W3.heap.size ≤ (wr.alloc (.cells #[.int .u8 (x.toNat : Int)] 5)).heap.size from Nat.le_trans HB3.out.size (by simp)) ?_; intro A3 c3 w4 ho4 hgq _hsq; have hB4 : Below W3.heap.size W3 w4 := below_app (HB3.out.alloc HB3.out.size (.cells #[.int .u8 (x.toNat : Int)] 5)) hgq (HO3.out.alloc (.cells #[.int .u8 (x.toNat : Int)] 5)) (show W3.heap.size ≤ (wr.alloc (.cells #[.int .u8 (x.toNat : Int)] 5)).heap.size from Nat.le_trans HB3.out.size (by simp)); replace ho4 := Lib.hid ho4; replace hB4 := Lib.hid hB4; clear hgq _hsq)
                go_roundw
                case rel => exact ⟨q + 1, p + 1, c3, A3, rfl, by simp, by omega, by omega, by show p + 1 = i + jc + (q + 1); rw [HP.out, Nat.add_assoc], hB4, by rw [TK.out, List.map_append]; exact ho4.out⟩
                case measure => simp [lenOfS]; omega
              · have hpn' : ¬ (p : Int) < (n : Int) := by omega
                have hpn2 : (n : Int) ≤ (p : Int) := by omega
                have hxe : Hid (Stp.byteAt bs p = 0) := by rw [Hid]; unfold Stp.byteAt; rw [List.getD_eq_getElem?_getD, List.getElem?_eq_none (by have := BL.out; omega)]; rfl
                rw [hxe.out] at TK
                clear hxe
                go_wp2_with (at_builtin; refine wpList_append_any _ rfl (.tmp 71) (.tmp 73) 27 rfl W3.heap.size 5 i0 (.int .u8 0) 1 1 Tryd.underlying27 hi.out hz0.out hz1.out hz2.out rfl (by omega) A16 q c16 _ rfl (HO3.out.alloc (.cells #[.int .u8 0] 5)) (wr.heap.size + 1) _ 1 1 _ rfl (reads_one wr _ _) (one_one rfl) hb1 hb2 (show W3.heap.size ≤ (wr.alloc (.cells #[.int .u8 0] 5)).heap.size from Nat.le_trans HB3.out.size (by simp)) ?_; intro A3 c3 w4 ho4 hgq _hsq; have hB4 : Below W3.heap.size W3 w4 := below_app (HB3.out.alloc HB3.out.size (.cells #[.int .u8 0] 5)) hgq (HO3.out.alloc (.cells #[.int .u8 0] 5)) (show W3.heap.size ≤ (wr.alloc (.cells #[.int .u8 0] 5)).heap.size from Nat.le_trans HB3.out.size (by simp)); replace ho4 := Lib.hid ho4; replace hB4 := Lib.hid hB4; clear hgq _hsq)
                go_roundw
                case rel => exact ⟨q + 1, p + 1, c3, A3, rfl, by simp, by omega, by omega, by show p + 1 = i + jc + (q + 1); rw [HP.out, Nat.add_assoc], hB4, by rw [TK.out, List.map_append]; exact ho4.out⟩
                case measure => simp [lenOfS]; omega
            · have hge3 : ¬ (p : Int) < (i : Int) + (je : Int) := by have := HP.out; have := HJ.out; omega
              obtain rfl : q = ch := by omega
              rw [hpart.out] at HO3
              have HBr := Lib.hid (below_then HB.out HB3.out)
              have HOr := Lib.hid (own_belowL HO.out HB3.out)
              have HLr := HL.out.below HB3.out
              have HPr : wr.ownsRow w.heap.size 5 1 (.slice A16 q c16) q ((Stp.chunkB B q j).map B8) := own_base HO3.out hszW
              have hap : Apart A16 A12 := Apart.newer (g := W3.heap.size) (fun x hx => (HO3.out.lt x (by rw [ownBlock_slice]; exact hx)).1) (own_lt HO.out)
              have al := (Below.refl _ wr).alloc (Nat.le_refl _) (.cells #[.slice A16 q c16] 27)
              obtain ⟨⟨vs, hv1, hv2, hv3⟩, hvb⟩ := HLr.below al
              have HPa := Lib.hid (own_belowL HPr al)
              have HOa := Lib.hid (own_belowL HOr.out al)
              have HBa := Lib.hid (below_then HBr.out al)
              have hXl : Hid ((Stp.chunkB B q j).length = q) := (Reads.of_own HPr).len
              have hXst : Hid (Stp.partsB (j + 1) q B = Stp.partsB j q B ++ [Stp.chunkB B q j]) := Stp.parts_step k q j B
              have hszA : w.heap.size ≤ wr.heap.size := HBr.out.size
              have hc1 : j + 1 ≤ maxLen := by unfold maxLen; omega
              have hc2 : (j + 1) * 24 ≤ 140737488355328 := by omega
              generalize Stp.chunkB B q j = X at *
              replace hv1 := Lib.hid hv1; replace hv2 := Lib.hid hv2; replace hv3 := Lib.hid hv3; replace hvb := Lib.hid hvb; replace hap := Lib.hid hap
              clear HPr HLr al HO HL HB HB3 HO3 HOr HBr
              go_wp2_with (at_builtin; refine wpList_append_any _ rfl (.tmp 75) (.tmp 77) 55 rfl w.heap.size 27 i1 (.slice none 0 0) 1 24 Tryd.underlying55 hi_.out hy0.out hy1.out hy2.out rfl (by omega) A14 j c14 _ rfl hv1.out (wr.heap.size + 1) _ 1 1 _ rfl (reads_one wr _ _) (one_one rfl) hc1 hc2 hvb.out ?_; intro A3 c3 w4 ho4 hgq _hsq; have hB4 : Below w.heap.size w w4 := below_app HBa.out hgq hv1.out hvb.out; have hP4 := Lst.push hXl.out HPa.out hap.out hv1.out hv2.out hv3.out hvb.out ho4 hgq; have hPart4 := own_apart HPa.out hv1.out (by decide) hgq; have hOut4 := own_apart HOa.out hv1.out (by decide) hgq; replace hB4 := Lib.hid hB4; replace hP4 := Lib.hid hP4; replace hPart4 := Lib.hid hPart4; replace hOut4 := Lib.hid hOut4; clear hgq _hsq ho4 hv1 hv2 hv3 hvb HPa HOa HBa hap)
              have KPut := Lib.hid (refPut_any A16 q c16 w4.heap.size X w4 (Reads.of_own hPart4.out) (Nat.le_refl _) (by omega))
              unfold SlRet at KPut
              have hMn : Mj + (q + 4) ≤ 16777216 := by
                have h1 := HMj.out
                have h2 := SH.out.hL
                have h3 := Nat.mul_le_mul_right (q + 4) (show j + 1 ≤ k + m by omega)
                rw [← h2, Nat.succ_mul] at h3
                omega
              refine KPut.out.mono ?_; rintro e w5 ⟨Ap, cp, rfl, hfp⟩
              have HB5 := Lib.hid (below_then hB4.out hfp.2)
              have HO5 := Lib.hid (own_belowL hOut4.out hfp.2)
              have HL5 := Lib.hid (hP4.out.below hfp.2)
              have HR5 := Lib.hid hfp.reads
              have ONE : Hid (∀ u ∈ (Crcp.put X).map B8, u.oneCell' = true) := row_one hfp.reads
              have hMx : Mj + (q + 4) ≤ maxLen := by unfold maxLen; omega
              have hMy : (Mj + (q + 4)) * 1 ≤ 140737488355328 := by omega
              have hsz5 : w.heap.size ≤ w5.heap.size := HB5.out.size
              clear hfp KPut hB4 hOut4 hP4 hPart4
              go_wp2_with (at_builtin; refine wpList_append_any _ rfl (.tmp 79) (.tmp 81) 27 rfl w.heap.size 5 i0 (.int .u8 0) 1 1 Tryd.underlying27 hi.out hz0.out hz1.out hz2.out rfl (by omega) A12 Mj c12 _ rfl HO5.out w5.heap.size Ap (q + 4) cp _ rfl HR5.out ONE.out hMx hMy hsz5 ?_; intro A6 c6 w6 ho6 hg6 hs6; have HB6 : Below w.heap.size w w6 := below_app HB5.out hg6 HO5.out hsz5; have HL6 := Lib.hid (HL5.out.grow HO5.out hg6 hs6); replace HB6 := Lib.hid HB6; replace ho6 := Lib.hid ho6; clear hg6 hs6)
              go_roundw
              case rel =>
                refine ⟨j + 1, Mj + (q + 4), c6, c3, A6, A3, rfl, rfl, by go_num, by omega, hMn, ?_, HB6, ?_, ?_⟩
                · show Mj + (q + 4) = M + (j + 1) * (q + 4)
                  rw [HMj.out, Nat.succ_mul, Nat.add_assoc]
                · have h6 := ho6.out
                  rw [hXst.out]
                  simpa [Hid, List.append_assoc] using h6
                · rw [hXst.out]; exact HL6.out
              case measure => simp [intOf]; omega
        · have hge2 : ¬ (j : Int) < (k : Int) := by omega
          obtain rfl : j = k := by omega
          have hpl := Stp.partsB_len j ch B
          have hparts : ∀ x ∈ Stp.partsB j ch B, x.length = ch := Stp.partsB_all (by rw [BLn.out]; exact SH.out.hd)
          have hONE : Hid (Stp.oneB j m ch B = ((Stp.partsB j ch B).map Crcp.put).flatten ++ ((Rsp.timesP m j ch (cauC j) (Stp.partsB j ch B)).map Crcp.put).flatten) := by
            rw [Hid]
            unfold Stp.oneB Rsp.allV
            rw [List.map_append, List.flatten_append]
          have hmay : Rsp.may (j : Int) (m : Int) = true := by unfold Rsp.may; exact decide_eq_true (by omega)
          have hpar := Rsp.par_all (p := m) hmay k1 hpl hparts
          have KP := refParity_any (m : Int) A14 j c14 _ wr HL.out.lists.rows8 (by omega) (fun x hx => by rw [hparts x hx]; omega)
          rw [hpar.1, hpar.2, Rsp.timesP_len] at KP
          unfold LsErr at KP
          have hYL : Hid (∀ x ∈ Rsp.timesP m j ch (cauC j) (Stp.partsB j ch B), x.length = ch) := Rsp.timesP_all _ _ _ _ _
          generalize Rsp.timesP m j ch (cauC j) (Stp.partsB j ch B) = Y at *
          generalize ((Stp.partsB j ch B).map Crcp.put).flatten = XF at *
          replace KP := Lib.hid KP
          have hAlt := Lib.hid (own_lt HO.out)
          have hszr : w.heap.size ≤ wr.heap.size := HB.out.size
          obtain ⟨W2, hW2⟩ : ∃ W2, W2 = wr := ⟨_, rfl⟩
          subst hW2
          clear hpar hparts hpl HL
          go_wp2_with fail
          refine KP.out.mono ?_; rintro e we ⟨Ay, cy, rfl, hly, hBe'⟩
          have HBe := Lib.hid (below_then HB.out hBe')
          have HOe := Lib.hid (own_belowL HO.out hBe')
          obtain ⟨gq, hgq⟩ : ∃ gq, blkOf A12 0 = gq := ⟨_, rfl⟩
          have hgq2 : gq < W2.heap.size := by
            rcases blkOf_or A12 0 with e | e
            · rw [← hgq, e]; omega
            · rw [hgq] at e
              exact hAlt.out gq e
          have HAx : Hid (Aside we we gq A12) := Aside.here fun q hq => .inl (hgq ▸ blkOf_spec hq)
          have ROW := Lib.hid (fun (W : World) (Aq : Option Addr) (hW : Aside we W gq Aq) (j' : Nat) (hj : j' < m) => (hly.aside (Nat.zero_le _) hgq2 hW).rows8.row hj)
          have YN : Hid (Y.length = m) := hly.len
          have hMk : Mj + m * (ch + 4) ≤ 16777216 := by
            have h1 := HMj.out
            have h2 := SH.out.hL
            rw [Nat.add_mul] at h2
            omega
          clear hly hBe' HB HO KP hAlt
          go_wp2_with fail
          go_loopw [12, 21] (fun v12 v21 wr => ∃ (y Mq cq : Nat) (Aq : Option Addr), v12 = .slice Aq Mq cq ∧ v21 = .int .i64 (y : Nat) ∧ y ≤ m ∧ Mq ≤ 16777216 ∧ Hid (Mq = Mj + y * (ch + 4)) ∧ Hid (Aside we wr gq Aq) ∧ Hid (Below w.heap.size w wr) ∧ Hid (wr.ownsRow w.heap.size 5 1 (.slice Aq Mq cq) Mq ((Stp.layB j m ch P t ++ XF ++ ((Y.take y).map Crcp.put).flatten).map B8))) (fun _ v21 _ => m - (intOf v21).toNat)
          case atStart => exact ⟨0, Mj, c12, A12, rfl, rfl, Nat.zero_le _, hMj, by show Mj = Mj + 0 * (ch + 4); rw [Nat.zero_mul]; rfl, HAx, HBe, by simpa [Hid] using HOe.out⟩
          case round =>
            clear HBe HOe HAx
            obtain ⟨y, Mq, cq, Aq, rfl, rfl, hym, hMq, HMq, HAq, HBq, HOq⟩ := hrel
            by_cases hlt4 : y < m
            · have hlt4' : (y : Int) < (m : Int) := by omega
              obtain ⟨ad, xs, Ai, ni, ci, hAd, -, hx, hcell, hnic, hcim, hrow⟩ := ROW.out wr Aq HAq.out y hlt4
              subst hAd
              have TK : Hid (Y.take (y + 1) = Y.take y ++ [xs]) := by rw [Hid, List.take_add_one, hx]; rfl
              have hxl := hYL.out xs (List.mem_of_getElem? hx)
              have hni : ni = ch := by have := hrow.len; omega
              rw [hni] at hcell hnic hrow
              have KPut := Lib.hid (refPut_any Ai ch ci wr.heap.size xs wr hrow (Nat.le_refl _) (by omega))
              have hMn : Mq + (ch + 4) ≤ 16777216 := by
                have := HMq.out
                have h2 : (y + 1) * (ch + 4) ≤ m * (ch + 4) := Nat.mul_le_mul_right _ hlt4
                rw [Nat.succ_mul] at h2; omega
              clear hx hrow hMk
              unfold SlRet at KPut
              go_wp2_with fail
              refine KPut.out.mono ?_; rintro e wp ⟨Ap, cp, rfl, hfp⟩
              have HAp := Lib.hid (HAq.out.below hfp.2)
              have HBp := Lib.hid (below_then HBq.out hfp.2)
              have HOp := Lib.hid (own_belowL HOq.out hfp.2)
              have HRp := Lib.hid hfp.reads
              have ONE : Hid (∀ u ∈ (Crcp.put xs).map B8, u.oneCell' = true) := row_one hfp.reads
              have hMx : Mq + (ch + 4) ≤ maxLen := by unfold maxLen; omega
              have hMy : (Mq + (ch + 4)) * 1 ≤ 140737488355328 := by omega
              have hszp : w.heap.size ≤ wp.heap.size := HBp.out.size
              clear hfp KPut hcell HAq HBq HOq
              go_wp2_with (at_builtin; refine wpList_append_any _ rfl (.tmp 95) (.tmp 100) 27 rfl w.heap.size 5 i0 (.int .u8 0) 1 1 Tryd.underlying27 hi.out hz0.out hz1.out hz2.out rfl (by omega) Aq Mq cq _ rfl HOp.out wp.heap.size Ap (ch + 4) cp _ rfl HRp.out ONE.out hMx hMy hszp ?_; intro A5 c5 w4 ho5 hg5 hs5; have HA5 := Lib.hid (HAp.out.grow hg5 hs5); have HB5 : Below w.heap.size w w4 := below_app HBp.out hg5 HOp.out hszp; replace HB5 := Lib.hid HB5; replace ho5 := Lib.hid ho5; clear hg5 hs5)
              go_roundw
              case rel =>
                refine ⟨y + 1, Mq + (ch + 4), c5, A5, rfl, by go_num, by omega, hMn, ?_, HA5, HB5, ?_⟩
                · show Mq + (ch + 4) = Mj + (y + 1) * (ch + 4)
                  rw [HMq.out, Nat.succ_mul, Nat.add_assoc]
                · have h5 := ho5.out
                  rw [TK.out]
                  simpa [Hid, List.append_assoc] using h5
              case measure => simp [intOf]; omega
            · have hge4 : ¬ (y : Int) < (m : Int) := by omega
              obtain rfl : y = m := by omega
              rw [List.take_of_length_le (by rw [YN.out]; omega), List.append_assoc, ← hONE.out, ← hBe.out, SH.out.hd, ← Stp.layB_step] at HOq
              go_wp2_with fail
              go_roundw
              case rel =>
                refine ⟨t + 1, i + d, Mq, cq, Aq, rfl, by go_num, by omega, by omega, hMq, ?_, ?_, HBq, HOq⟩
                · show i + d = (t + 1) * d
                  rw [HI.out, Nat.succ_mul]
                · show Mq = (t + 1) * L
                  rw [HMq.out, HMj.out, HM.out, Nat.succ_mul, SH.out.hL, Nat.add_mul, Nat.add_assoc]
              case measure => simp [intOf]; omega
    · obtain rfl : t = S := by omega
      have hMT : M = T := by rw [HM.out, SH.out.hT]
      subst hMT
      have hge : ¬ (i : Int) < (n : Int) := by have := HI.out; have := SH.out.hN; omega
      have hge2 : (n : Int) ≤ (i : Int) := by omega
      have HOl : Hid (wr.ownsRow w.heap.size 5 1 (.slice A12 M c12) M ((Stp.layV k m ch bs).map B8)) := by rw [← LAY.out]; exact HO.out
      clear HO LAY
      go_wp2_with fail
      go_ret2
      exact ⟨_, _, rfl, HOl.out, HB.out⟩
end Go.Proofs.YtjbedcgacnnanaaDoor
