/-
  The law StripeDamage, walked.
-/
import Derived.Test.YtjbedcgacnnanaaDoorStz
namespace Go.Proofs.YtjbedcgacnnanaaDoor
set_option linter.unusedSimpArgs false
set_option linter.unusedVariables false
open Go.RowKit

namespace Stp
section
variable {k m ch q i inn : Nat} {y : List UInt8}
/-- more than m chunks of a stripe aren't good -/
theorem Cnt.over (h : Cnt k m ch q y i inn) (hq : k + m = q) (h0 : 0 < q) (hg : goodB (chunkB y (ch + 4) i) = false) (ho : m < inAt q i inn + 1) : (Rsp.gd (goodL (csAt k m ch y (i / q))) q).length < k := by
  have h1 := h.at_
  have h2 := gd_at (ch := ch) (y := y) (i := i) hq h0
  rw [hg, if_neg (by decide)] at h2
  have h3 := Nat.mod_lt i h0
  have h4 := gd_rest (goodL (csAt k m ch y (i / q))) (i % q + 1) (q - (i % q + 1))
  rw [show i % q + 1 + (q - (i % q + 1)) = q by omega] at h4
  omega
end
end Stp
set_option maxRecDepth 100000 in
set_option maxHeartbeats 16000000 in
theorem stripeDamage_walk (a b c0 : Nat) (A : Option Addr) (n c : Nat) (bs : List UInt8) (At : Option Addr) (nt ct : Nat) (ts : List (Nat × Nat)) (w : World) (hs : a < 256 ∧ b < 256 ∧ c0 < 256) (hnc : n ≤ c) (hcm : c ≤ maxLen) (hr : Reads w w.heap.size 1 A n (bs.map B8)) (_hnt : nt ≤ ct) (_hct : ct ≤ maxLen) (hts : Reads w w.heap.size 2 At nt (turnsC ts) ∧ ∀ t ∈ ts, t.1 < 65536 ∧ t.2 < 256) (ht : Tab w) :
    Calls Tryd.prog 8 #[.agg #[.int .u8 a, .int .u8 b, .int .u8 c0], .slice A n c, .slice At nt ct] w fun e w' => e = .returned (.bool true) ∧ Below w.heap.size w w' := by
  have KA := Lib.hid (fun W (hB : Below w.heap.size w W) => stAlive_any W (ht.below hB ht.pos))
  have KO := Lib.hid (fun W => of_any a b c0 W hs.1 hs.2.1 hs.2.2)
  have hbk := Blk.new w 38 #[.int .u8 a, .int .u8 b, .int .u8 c0]
  have hBA := (Below.refl w.heap.size w).alloc (Nat.le_refl _) (.cells #[.int .u8 a, .int .u8 b, .int .u8 c0] 38)
  obtain ⟨W1, hW1⟩ : ∃ W1, w.alloc (.cells #[.int .u8 a, .int .u8 b, .int .u8 c0] 38) = W1 := ⟨_, rfl⟩
  have hbk1 : Blk W1 w.heap.size 38 #[.int .u8 a, .int .u8 b, .int .u8 c0] := hW1 ▸ hbk
  have hB1 : Below w.heap.size w W1 := hW1 ▸ hBA
  clear hbk hBA
  have KA1 := Lib.hid (KA.out W1 hB1)
  clear KA
  by_cases hl : 600 < n ∨ 60 < nt
  · replace hB1 := Lib.hid hB1; replace hbk1 := Lib.hid hbk1; replace hW1 := Lib.hid hW1
    have hcase : (600 < n) ∨ (¬ 600 < n ∧ 60 < nt) := by omega
    clear hr ht hts hl
    rcases hcase with hl | ⟨hl, hl2⟩
    · have hl' : (600 : Int) < (n : Int) := by omega
      go_enter Tryd.func8, Tryd.ntmps8
      go_wp2_with fail
      rw [hW1.out]
      refine KA1.out.mono ?_; rintro e w2 ⟨rfl, hB2⟩
      have HB2 := Lib.hid (hB1.out.trans (hB2.mono hB1.out.size))
      clear hB2
      go_wp2_with fail
      go_ret
      exact ⟨rfl, HB2.out⟩
    · have hl' : ¬ (600 : Int) < (n : Int) := by omega
      have hl2' : (60 : Int) < (nt : Int) := by omega
      go_enter Tryd.func8, Tryd.ntmps8
      go_wp2_with fail
      rw [hW1.out]
      refine KA1.out.mono ?_; rintro e w2 ⟨rfl, hB2⟩
      have HB2 := Lib.hid (hB1.out.trans (hB2.mono hB1.out.size))
      clear hB2
      go_wp2_with fail
      go_ret
      exact ⟨rfl, HB2.out⟩
  · have hl' : ¬ (600 : Int) < (n : Int) := by omega
    have hl2' : ¬ (60 : Int) < (nt : Int) := by omega
    have hn := Lib.hid hr.len
    obtain ⟨k, m, ch, q, ce, S, T, ek, em, ech, k1, k2, m1, ch1, ch2, hq, hce, hT, hTe, hVl, hSq, sh, KL, KR⟩ := law_parts a b c0 A n c bs w hnc hcm hr ht (by omega)
    rw [ek, em, ech] at KO
    unfold SlErrN at KL
    replace KL := Lib.hid KL; replace KR := Lib.hid KR
    have HRB := Lib.hid (fun W (hB : Below w.heap.size w W) => (hr.below hB).more hB.size)
    have HTS := Lib.hid (fun W (hB : Below w.heap.size w W) => hts.1.below hB)
    have htl : ts.length = nt := by have := hts.1.1; rw [turnsC_len] at this; omega
    have TSB := Lib.hid hts.2
    obtain ⟨V, hV⟩ : ∃ V, Stp.layV k m ch bs = V := ⟨_, rfl⟩
    rw [hV] at hVl KL
    have q1 : 0 < q := by omega
    have q2 : q ≤ 10 := by omega
    have ce1 : ce ≤ 28 := by omega
    have ce5 : 5 ≤ ce := by omega
    have hkq : (k : Int) + (m : Int) = (q : Int) := by omega
    have hce' : (ch : Int) + 4 = (ce : Int) := by omega
    have HQ := Lib.hid hq; have HCE := Lib.hid hce; have HTE := Lib.hid hTe
    obtain ⟨NC, hNC⟩ : ∃ NC, S * q = NC := ⟨_, rfl⟩
    rw [hNC] at hSq hTe
    have hquo : (T : Int).tdiv (ce : Int) = (NC : Int) := by
      rw [Int.tdiv_eq_ediv_of_nonneg (by omega), hTe]
      rw [← Int.natCast_ediv, Nat.mul_div_cancel _ (by omega)]
    have hce0 : ((ce : Int) == 0) = false := by simp; omega
    have hce1 : ¬ (ce : Int) = 0 := by omega
    have hNCe := Lib.hid hTe
    replace hNC := Lib.hid hNC; replace hV := Lib.hid hV; replace hVl := Lib.hid hVl
    replace hB1 := Lib.hid hB1; replace hbk1 := Lib.hid hbk1; replace hW1 := Lib.hid hW1
    obtain ⟨i0, hi, hz0, hz1, hz2⟩ := info_parts info_u8
    replace hi := Lib.hid hi; replace hz0 := Lib.hid hz0; replace hz1 := Lib.hid hz1; replace hz2 := Lib.hid hz2
    obtain ⟨i2, hj, hx0, hx1, hx2⟩ := info_parts info_i64o
    replace hj := Lib.hid hj; replace hx0 := Lib.hid hx0; replace hx1 := Lib.hid hx1; replace hx2 := Lib.hid hx2
    have htl2 := Lib.hid htl
    have OVER := Lib.hid (fun (y : List UInt8) (hy : y.length = T) (t : Nat) (ht : t < S) ho => Stp.over_read sh hy ht ho)
    rw [HQ.out] at OVER
    clear hr ht hts hl sh ek em ech hq hce hTe htl
    go_enter Tryd.func8, Tryd.ntmps8
    go_wp2_with fail
    rw [hW1.out]
    refine KA1.out.mono ?_; rintro e w2 ⟨rfl, hB2⟩
    have hbk2 := hbk1.out.below hB2 hbk1.out.lt
    have q0' := hbk2.cell 0
    have q1' := hbk2.cell 1
    have q2' := hbk2.cell 2
    have HB2 := Lib.hid (hB1.out.trans (hB2.mono hB1.out.size))
    clear hB2 hbk2
    go_wp2_with fail
    refine (KO.out _).mono ?_; rintro e w3 ⟨rfl, hB3⟩
    have HB3 := Lib.hid (below_then HB2.out hB3)
    have KL3 := Lib.hid (KL.out w3 HB3.out)
    clear hB3 q0' q1' q2'
    go_wp2_with fail
    refine KL3.out.mono ?_; rintro e w4 ⟨A4, c4, rfl, hf4⟩
    have HB34 := Lib.hid hf4.2
    have ho7 := Lib.hid hf4.1
    have hsz3 : w.heap.size ≤ w3.heap.size := HB3.out.size
    clear KL3 hf4 KA1 KO KL HB2 hbk1 hB1
    go_wp2_with fail
    go_loopw [12] (fun v12 wr => ∃ (i : Nat) (y : List UInt8), v12 = .int .i64 (i : Nat) ∧ i ≤ nt ∧ Hid (y.length = T) ∧ Hid (Below w3.heap.size w3 wr) ∧ Hid (wr.ownsRow w3.heap.size 5 1 (.slice A4 T c4) T (y.map B8))) (fun v12 _ => nt - (intOf v12).toNat)
    case atStart => exact ⟨0, V, rfl, Nat.zero_le _, hVl, HB34, ho7⟩
    case round =>
      clear ho7 HB34
      obtain ⟨i, y, rfl, hin, HY, HB, HO⟩ := hrel
      by_cases hlt : i < nt ∧ 0 < T
      · obtain ⟨hlt, hT0⟩ := hlt
        have hlt' : (i : Int) < (nt : Int) := by omega
        have hT0' : (0 : Int) < (T : Int) := by omega
        have hi0 : (0 : Int) ≤ (i : Int) := by omega
        obtain ⟨ad, hAd, -, k0, k1'⟩ := turn_cells (HTS.out wr (HB3.out.trans (HB.out.mono hsz3))) i (by rw [htl2.out]; exact hlt)
        rw [show (ad.add (i * 2)).add 1 = ⟨(ad.add (i * 2)).block, (ad.add (i * 2)).off + 1, none⟩ from rfl] at k1'
        have htb := TSB.out _ (List.getElem_mem (show i < ts.length by rw [htl2.out]; exact hlt))
        generalize (ts[i]'(by rw [htl2.out]; exact hlt)) = tt at *
        obtain ⟨t1, tb⟩ := tt
        dsimp only at k0 k1' htb
        obtain ⟨ht1, ht2⟩ := htb
        subst hAd
        obtain ⟨g5, cap5, hv5, _, _⟩ := HO.out.form hT0
        have hA4 : A4 = some ⟨g5, 0, none⟩ := by injection hv5
        subst hA4
        obtain ⟨at_, hat⟩ : ∃ at_, t1 % T = at_ := ⟨_, rfl⟩
        have hatT : at_ < T := by rw [← hat]; exact Nat.mod_lt _ hT0
        have hrem : (t1 : Int).tmod (T : Int) = (at_ : Int) := by rw [Int.tmod_eq_emod_of_nonneg (by omega), ← hat]; rfl
        have hTz : ((T : Int) == 0) = false := by simp; omega
        have hTz1 : ¬ (T : Int) = 0 := by omega
        have hat0 : (0 : Int) ≤ (at_ : Int) := by omega
        have hat1 : (at_ : Int) < (T : Int) := by omega
        obtain ⟨z, hz⟩ : ∃ z, y[at_]? = some z := ⟨y[at_]'(by rw [HY.out]; exact hatT), List.getElem?_eq_getElem _⟩
        have k2 : wr.cell? ⟨g5, at_, none⟩ = some (.int .u8 (z.toNat : Int)) := by
          rw [HO.out.cellAt at_ (by omega), List.getElem?_map, hz]; rfl
        have hxor := u8_xor_byte z tb ht2
        have k3 := HO.out.frozenAt at_
        replace hat := Lib.hid hat; replace hz := Lib.hid hz
        clear hv5
        go_wp2_with fail
        refine region_E 12 (fun W => W.cell? ⟨g5, at_, none⟩ = some (.int .u8 (z.toNat : Int)) ∧ W.cell? ⟨(ad.add (i * 2)).block, (ad.add (i * 2)).off + 1, none⟩ = some (.int .u8 (tb : Int))) (by kernel_rfl) ⟨k2, k1'⟩ (fun hHeld => ?_)
        refine took 0 (v := ?_) rfl (by kernel_rfl) (by kernel_rfl) (by kernel_rfl) (by kernel_rfl) (fun _ _ _ h => h) (by rfl) (by assumption) ?_ ?_
        rotate_left
        · (intro W hSw; (try dsimp only at hSw); go_simp; first | done | with_reducible rfl)
        try simp only [Act.put, List.setIfInBounds_toArray, List.set_cons_zero, List.set_cons_succ]
        refine took 1 (v := ?_) rfl (by kernel_rfl) (by kernel_rfl) (by kernel_rfl) (by kernel_rfl) (fun _ _ _ h => h) (by rfl) (by assumption) ?_ ?_
        rotate_left
        · (intro W hSw; (try dsimp only at hSw); go_simp; first | done | with_reducible rfl)
        try simp only [Act.put, List.setIfInBounds_toArray, List.set_cons_zero, List.set_cons_succ]
        refine took 2 (v := ?_) rfl (by kernel_rfl) (by kernel_rfl) (by kernel_rfl) (by kernel_rfl) (fun _ _ _ h => h) (by rfl) (by assumption) ?_ ?_
        rotate_left
        · (intro W hSw; (try dsimp only at hSw); go_simp; first | done | with_reducible rfl)
        try simp only [Act.put, List.setIfInBounds_toArray, List.set_cons_zero, List.set_cons_succ]
        refine took 3 (v := ?_) rfl (by kernel_rfl) (by kernel_rfl) (by kernel_rfl) (by kernel_rfl) (fun _ _ _ h => h) (by rfl) (by assumption) ?_ ?_
        rotate_left
        · (intro W hSw; (try dsimp only at hSw); go_simp; first | done | with_reducible rfl)
        try simp only [Act.put, List.setIfInBounds_toArray, List.set_cons_zero, List.set_cons_succ]
        refine took 4 (v := ?_) rfl (by kernel_rfl) (by kernel_rfl) (by kernel_rfl) (by kernel_rfl) (fun _ _ _ h => h) (by rfl) (by assumption) ?_ ?_
        rotate_left
        · (intro W hSw; (try dsimp only at hSw); go_simp; first | done | with_reducible rfl)
        try simp only [Act.put, List.setIfInBounds_toArray, List.set_cons_zero, List.set_cons_succ]
        refine took 5 (v := ?_) rfl (by kernel_rfl) (by kernel_rfl) (by kernel_rfl) (by kernel_rfl) (fun _ _ _ h => h) (by rfl) (by assumption) ?_ ?_
        rotate_left
        · (intro W hSw; (try dsimp only at hSw); go_simp; first | done | with_reducible rfl)
        try simp only [Act.put, List.setIfInBounds_toArray, List.set_cons_zero, List.set_cons_succ]
        refine took 6 (v := ?_) rfl (by kernel_rfl) (by kernel_rfl) (by kernel_rfl) (by kernel_rfl) (fun _ _ _ h => h) (by rfl) (by assumption) ?_ ?_
        rotate_left
        · (intro W hSw; (try dsimp only at hSw); go_simp; first | done | with_reducible rfl)
        try simp only [Act.put, List.setIfInBounds_toArray, List.set_cons_zero, List.set_cons_succ]
        refine took 7 (v := ?_) rfl (by kernel_rfl) (by kernel_rfl) (by kernel_rfl) (by kernel_rfl) (fun _ _ _ h => h) (by rfl) (by assumption) ?_ ?_
        rotate_left
        · (intro W hSw; (try dsimp only at hSw); go_simp; first | done | with_reducible rfl)
        try simp only [Act.put, List.setIfInBounds_toArray, List.set_cons_zero, List.set_cons_succ]
        refine took 8 (v := ?_) rfl (by kernel_rfl) (by kernel_rfl) (by kernel_rfl) (by kernel_rfl) (fun _ _ _ h => h) (by rfl) (by assumption) ?_ ?_
        rotate_left
        · (intro W hSw; (try dsimp only at hSw); go_simp; first | done | with_reducible rfl)
        try simp only [Act.put, List.setIfInBounds_toArray, List.set_cons_zero, List.set_cons_succ]
        refine took 9 (v := ?_) rfl (by kernel_rfl) (by kernel_rfl) (by kernel_rfl) (by kernel_rfl) (fun _ _ _ h => h) (by rfl) (by assumption) ?_ ?_
        rotate_left
        · (intro W hSw; (try dsimp only at hSw); go_simp; first | done | with_reducible rfl)
        try simp only [Act.put, List.setIfInBounds_toArray, List.set_cons_zero, List.set_cons_succ]
        refine took 10 (v := ?_) rfl (by kernel_rfl) (by kernel_rfl) (by kernel_rfl) (by kernel_rfl) (fun _ _ _ h => h) (by rfl) (by assumption) ?_ ?_
        rotate_left
        · (intro W hSw; (try dsimp only at hSw); go_simp; first | done | with_reducible rfl)
        try simp only [Act.put, List.setIfInBounds_toArray, List.set_cons_zero, List.set_cons_succ]
        refine took 11 (v := ?_) rfl (by kernel_rfl) (by kernel_rfl) (by kernel_rfl) (by kernel_rfl) (fun _ _ _ h => h) (by rfl) (by assumption) ?_ ?_
        rotate_left
        · (intro W hSw; (try dsimp only at hSw); go_simp; first | done | with_reducible rfl)
        try simp only [Act.put, List.setIfInBounds_toArray, List.set_cons_zero, List.set_cons_succ]
        refine lately 12 rfl (by kernel_rfl) (by decide) (by rfl) (fun K hK => ?_)
        go_simp
        refine hK.out _ _ ?_
        clear hK K
        try simp only [Act.put, List.setIfInBounds_toArray, List.set_cons_zero, List.set_cons_succ]
        refine lately 13 rfl (by kernel_rfl) (by decide) (by rfl) (fun K hK => ?_)
        go_simp
        refine hK.out _ _ ?_
        clear hK K
        try simp only [Act.put, List.setIfInBounds_toArray, List.set_cons_zero, List.set_cons_succ]
        refine allDone (by kernel_rfl) ?_ _
        have hge5 : w3.heap.size ≤ g5 := (HO.out.lt g5 (by rw [ownBlock_slice]; rfl)).1
        have HB' := Lib.hid ((HB.out.drew).setCell (p := ⟨g5, at_, none⟩) hge5 (B8 (z ^^^ UInt8.ofNat tb)))
        have HO' := Lib.hid (own_turned (i := at_) HO.out.drew (z ^^^ UInt8.ofNat tb))
        clear hHeld
        go_wp2_with fail
        go_roundw
        case rel => exact ⟨i + 1, y.set at_ (z ^^^ UInt8.ofNat tb), by go_num, by omega, by rw [Hid, List.length_set]; exact HY.out, HB', HO'⟩
        case measure => simp [intOf]; omega
      · have hcase : (i < nt ∧ T = 0) ∨ ¬ i < nt := by omega
        clear hlt
        rcases hcase with ⟨hlt, hT0⟩ | hlt
        · have hlt' : (i : Int) < (nt : Int) := by omega
          have hT0' : ¬ (0 : Int) < (T : Int) := by omega
          have hN0 : NC = 0 := by
            rcases Nat.eq_zero_or_pos NC with h | h
            · exact h
            · have h2 := hNCe.out
              have h3 := Nat.mul_le_mul h ce5
              omega
          replace hT0 := Lib.hid hT0; replace hN0 := Lib.hid hN0
          obtain ⟨W6, hW6⟩ : ∃ W6, W6 = wr := ⟨_, rfl⟩
          subst hW6
          go_wp2_with fail
          go_loopw [14, 15, 16] (fun v14 v15 v16 wr => ∃ (x inn : Nat) (ov : Bool), v14 = .int .i64 (inn : Nat) ∧ v15 = .bool ov ∧ v16 = .int .i64 (x : Nat) ∧ x ≤ NC ∧ inn ≤ x ∧ Hid (Stp.Cnt k m ch q y x inn) ∧ Hid (ov = true → ∃ t, t < S ∧ (Rsp.gd (Stp.goodL (Stp.csAt k m ch y t)) q).length < k) ∧ Hid (Below w3.heap.size w3 wr) ∧ Hid (wr.ownsRow w3.heap.size 5 1 (.slice A4 T c4) T (y.map B8))) (fun _ _ v16 _ => NC - (intOf v16).toNat)
          case atStart => exact ⟨0, 0, false, rfl, rfl, rfl, Nat.zero_le _, Nat.le_refl _, Stp.Cnt.start, fun h => (by cases h), HB, HO⟩
          case round =>
            clear HB HO
            obtain ⟨x, inn, ov, rfl, rfl, rfl, hxN, hnx, HM, hOV, HBd, HOd⟩ := hrel
            by_cases hlt2 : x < NC
            · exact absurd hlt2 (by rw [hN0.out]; exact Nat.not_lt_zero _)
            · have hge2 : ¬ (x : Int) < (NC : Int) := by omega
              obtain rfl : x = NC := by omega
              have hcap5 := own_cap HOd.out
              have KR7 := KR.out wr (HB3.out.trans (HBd.out.mono hsz3)) y A4 c4 hcap5.1 hcap5.2 (Reads.of_own HOd.out)
              have hO2 := Lib.hid (fun t ht ho => OVER.out y HY.out t ht ho)
              unfold RdRet at KR7
              generalize Stp.rdV k m ch n S y = RV at *
              generalize Stp.rdB k m ch n S y = RB at *
              generalize Stp.rdE k m ch n S y = RE at *
              have HBw := Lib.hid (HB3.out.trans (HBd.out.mono hsz3))
              cases ov with
              | false =>
                generalize RV.length = rv at *
                generalize RB.length = rb at *
                replace KR7 := Lib.hid KR7
                clear hO2
                go_wp2_with fail
                refine KR7.out.mono ?_; rintro e w9 ⟨A9, c9, A10, c10, rfl, hr9, hr10, hB9⟩
                have HB9 := Lib.hid (HBw.out.trans (hB9.mono HBw.out.size))
                clear KR7 hr9 hr10 hB9
                go_wp2_with fail
                go_ret
                exact ⟨rfl, HB9.out⟩
              | true =>
                obtain ⟨t, ht, ho⟩ := hOV.out rfl
                obtain ⟨hE, hv, hb⟩ := hO2.out t ht ho
                subst hv
                subst hb
                replace KR7 := Lib.hid KR7
                clear hO2 ho ht hOV
                rcases hE with hE | hE
                · subst hE
                  go_wp2_with fail
                  refine KR7.out.mono ?_; rintro e w9 ⟨A9, c9, A10, c10, rfl, hr9, hr10, hB9⟩
                  have HB9 := Lib.hid (HBw.out.trans (hB9.mono HBw.out.size))
                  clear KR7 hr9 hr10 hB9
                  go_wp2_with fail
                  go_ret
                  exact ⟨rfl, HB9.out⟩
                · subst hE
                  go_wp2_with fail
                  refine KR7.out.mono ?_; rintro e w9 ⟨A9, c9, A10, c10, rfl, hr9, hr10, hB9⟩
                  have HB9 := Lib.hid (HBw.out.trans (hB9.mono HBw.out.size))
                  clear KR7 hr9 hr10 hB9
                  go_wp2_with fail
                  go_ret
                  exact ⟨rfl, HB9.out⟩
        · have hlt' : ¬ (i : Int) < (nt : Int) := by omega
          obtain ⟨W6, hW6⟩ : ∃ W6, W6 = wr := ⟨_, rfl⟩
          subst hW6
          go_wp2_with fail
          go_loopw [14, 15, 16] (fun v14 v15 v16 wr => ∃ (x inn : Nat) (ov : Bool), v14 = .int .i64 (inn : Nat) ∧ v15 = .bool ov ∧ v16 = .int .i64 (x : Nat) ∧ x ≤ NC ∧ inn ≤ x ∧ Hid (Stp.Cnt k m ch q y x inn) ∧ Hid (ov = true → ∃ t, t < S ∧ (Rsp.gd (Stp.goodL (Stp.csAt k m ch y t)) q).length < k) ∧ Hid (Below w3.heap.size w3 wr) ∧ Hid (wr.ownsRow w3.heap.size 5 1 (.slice A4 T c4) T (y.map B8))) (fun _ _ v16 _ => NC - (intOf v16).toNat)
          case atStart => exact ⟨0, 0, false, rfl, rfl, rfl, Nat.zero_le _, Nat.le_refl _, Stp.Cnt.start, fun h => (by cases h), HB, HO⟩
          case round =>
            clear HB HO
            obtain ⟨x, inn, ov, rfl, rfl, rfl, hxN, hnx, HM, hOV, HBd, HOd⟩ := hrel
            by_cases hlt2 : x < NC
            · have hlt2' : (x : Int) < (NC : Int) := by omega
              obtain ⟨p, hp⟩ : ∃ p, x * ce = p := ⟨_, rfl⟩
              obtain ⟨p2, hp2⟩ : ∃ p2, p + ce = p2 := ⟨_, rfl⟩
              have hx1ce : (x + 1) * ce = p2 := by rw [Nat.succ_mul, hp, hp2]
              have hp2T : p2 ≤ T := by
                have h1 := Nat.mul_le_mul_right ce (show x + 1 ≤ NC by omega)
                rw [hx1ce] at h1
                have h2 := hNCe.out
                omega
              have hmul1 : (x : Int) * (ce : Int) = (p : Int) := by rw [← hp, Int.natCast_mul]
              have hmul2 : ((x : Int) + 1) * (ce : Int) = (p2 : Int) := by rw [← hx1ce, Int.natCast_mul]; rfl
              obtain ⟨r, hr⟩ : ∃ r, x % q = r := ⟨_, rfl⟩
              have hremq : (x : Int).tmod (q : Int) = (r : Int) := by rw [Int.tmod_eq_emod_of_nonneg (by omega), ← hr]; rfl
              have hqz : ((q : Int) == 0) = false := by simp; omega
              have hqz1 : ¬ (q : Int) = 0 := by omega
              have hcap5 := own_cap HOd.out
              have hcuty := run_cut_lh (P := Tryd.prog) 27 5 i0 1 Tryd.underlying27 hi.out hz1.out A4 T c4 p p2 .i64 .i64 (by omega) (by omega)
              rw [show p2 - p = ce by omega] at hcuty
              have hRy : Hid (Reads wr wr.heap.size 1 (cutA A4 c4 p 1) ce ((Stp.chunkB y ce x).map B8)) := by
                have h1 := (Reads.of_own HOd.out).cutN (show p ≤ T by omega) hcap5.1
                have h2 := h1.takeN (show ce ≤ T - p by omega)
                rw [← hp] at h2
                rw [← hp]; exact h2
              have KC := Lib.hid (refCut_any (cutA A4 c4 p 1) ce (c4 - p) (Stp.chunkB y ce x) wr hRy.out (by omega) (by omega))
              unfold SlErr at KC
              have hgd : Stp.goodB (Stp.chunkB y ce x) = decide (Crcp.cutE (Stp.chunkB y ce x) = 0) := rfl
              obtain ⟨er, her⟩ : ∃ er, Crcp.cutE (Stp.chunkB y ce x) = er := ⟨_, rfl⟩
              rw [her] at KC hgd
              replace her := Lib.hid her; replace hgd := Lib.hid hgd
              generalize Crcp.cutV (Stp.chunkB y ce x) = CV at *
              have hpb : p ≤ 168000 := by omega
              have hp2b : p2 ≤ 168000 := by omega
              have hpp : (p : Int) ≤ (p2 : Int) := by omega
              have hpc : (p2 : Int) ≤ (c4 : Int) := by omega
              replace hp := Lib.hid hp; replace hx1ce := Lib.hid hx1ce; replace hp2 := Lib.hid hp2
              clear hRy
              by_cases hr0 : r = 0
              · have hv : Stp.inAt q x inn = 0 := by unfold Stp.inAt; rw [if_pos (hr.trans hr0)]
                have hr0' : ((r : Int) == 0) = true := by rw [hr0]; rfl
                have hr0'' : (r : Int) = 0 := by omega
                replace hr := Lib.hid hr
                have hvb : 0 ≤ 1000000 := by omega
                go_wp2_with fail
                refine KC.out.mono ?_; rintro e w8 ⟨A8, c8, rfl, hf8⟩
                have HB8 := Lib.hid (HBd.out.trans (hf8.2.mono HBd.out.size))
                have HO8 := Lib.hid (own_belowL HOd.out hf8.2)
                clear hf8 KC
                cases hgy : Stp.goodB (Stp.chunkB y ce x) with
                | true =>
                  have he : er = 0 := of_decide_eq_true (hgd.out ▸ hgy)
                  have hMn := Lib.hid (HM.out.good HQ.out q1 (by rw [HCE.out]; exact hgy))
                  rw [hv] at hMn
                  subst he
                  clear hgd hgy
                  go_wp2_with fail
                  go_roundw
                  case rel => exact ⟨x + 1, 0, ov, by first | rfl | go_num, rfl, by go_num, by omega, by omega, hMn, by first | exact hOV | exact (fun _ => hOV.out trivial), HB8, HO8⟩
                  case measure => simp [intOf]; omega
                | false =>
                  have he : er ≠ 0 := of_decide_eq_false (hgd.out ▸ hgy)
                  have e1 : (er == (0 : Int)) = false := by simp [he]
                  have e2 : (er != (0 : Int)) = true := by simp [he]
                  have hMn := Lib.hid (HM.out.bad HQ.out q1 (by rw [HCE.out]; exact hgy))
                  have hOO := Lib.hid (fun ho => HM.out.over HQ.out q1 (by rw [HCE.out]; exact hgy) ho)
                  rw [hv] at hMn hOO
                  clear hgd hgy he
                  cases ov with
                  | true =>
                    go_wp2_with fail
                    go_roundw
                    case rel => exact ⟨x + 1, 0 + 1, true, by first | rfl | go_num, by first | rfl | exact congrArg Value.bool (decide_eq_true (by omega)), by go_num, by omega, by omega, hMn, by first | exact hOV | exact (fun _ => hOV.out trivial), HB8, HO8⟩
                    case measure => simp [intOf]; omega
                  | false =>
                    by_cases hvm : m < 0 + 1
                    · have hvm' : (m : Int) < (0 : Int) + 1 := by omega
                      have hvm2 : (m : Int) < ((0 + 1 : Nat) : Int) := by omega
                      have hov : Hid (true = true → ∃ t, t < S ∧ (Rsp.gd (Stp.goodL (Stp.csAt k m ch y t)) q).length < k) := fun _ => ⟨x / q, by
                        rw [Nat.div_lt_iff_lt_mul q1, hNC.out]; exact hlt2, hOO.out hvm⟩
                      go_wp2_with fail
                      go_roundw
                      case rel => exact ⟨x + 1, 0 + 1, true, by first | rfl | go_num, by first | rfl | exact congrArg Value.bool (decide_eq_true (by omega)), by go_num, by omega, by omega, hMn, by first | exact hov | exact (fun _ => hov.out trivial), HB8, HO8⟩
                      case measure => simp [intOf]; omega
                    · have hvm' : ¬ (m : Int) < (0 : Int) + 1 := by omega
                      have hvm2 : ¬ (m : Int) < ((0 + 1 : Nat) : Int) := by omega
                      go_wp2_with fail
                      go_roundw
                      case rel => exact ⟨x + 1, 0 + 1, false, by first | rfl | go_num, by first | rfl | exact congrArg Value.bool (decide_eq_false (by omega)), by go_num, by omega, by omega, hMn, by first | exact hOV | exact (fun _ => hOV.out trivial), HB8, HO8⟩
                      case measure => simp [intOf]; omega
              · have hv : Stp.inAt q x inn = inn := by unfold Stp.inAt; rw [if_neg (by rw [hr]; exact hr0)]
                have hr0' : ((r : Int) == 0) = false := by simp; omega
                have hr0'' : ¬ (r : Int) = 0 := by omega
                replace hr := Lib.hid hr
                have hvb : inn ≤ 1000000 := by omega
                go_wp2_with fail
                refine KC.out.mono ?_; rintro e w8 ⟨A8, c8, rfl, hf8⟩
                have HB8 := Lib.hid (HBd.out.trans (hf8.2.mono HBd.out.size))
                have HO8 := Lib.hid (own_belowL HOd.out hf8.2)
                clear hf8 KC
                cases hgy : Stp.goodB (Stp.chunkB y ce x) with
                | true =>
                  have he : er = 0 := of_decide_eq_true (hgd.out ▸ hgy)
                  have hMn := Lib.hid (HM.out.good HQ.out q1 (by rw [HCE.out]; exact hgy))
                  rw [hv] at hMn
                  subst he
                  clear hgd hgy
                  go_wp2_with fail
                  go_roundw
                  case rel => exact ⟨x + 1, inn, ov, by first | rfl | go_num, rfl, by go_num, by omega, by omega, hMn, by first | exact hOV | exact (fun _ => hOV.out trivial), HB8, HO8⟩
                  case measure => simp [intOf]; omega
                | false =>
                  have he : er ≠ 0 := of_decide_eq_false (hgd.out ▸ hgy)
                  have e1 : (er == (0 : Int)) = false := by simp [he]
                  have e2 : (er != (0 : Int)) = true := by simp [he]
                  have hMn := Lib.hid (HM.out.bad HQ.out q1 (by rw [HCE.out]; exact hgy))
                  have hOO := Lib.hid (fun ho => HM.out.over HQ.out q1 (by rw [HCE.out]; exact hgy) ho)
                  rw [hv] at hMn hOO
                  clear hgd hgy he
                  cases ov with
                  | true =>
                    go_wp2_with fail
                    go_roundw
                    case rel => exact ⟨x + 1, inn + 1, true, by first | rfl | go_num, by first | rfl | exact congrArg Value.bool (decide_eq_true (by omega)), by go_num, by omega, by omega, hMn, by first | exact hOV | exact (fun _ => hOV.out trivial), HB8, HO8⟩
                    case measure => simp [intOf]; omega
                  | false =>
                    by_cases hvm : m < inn + 1
                    · have hvm' : (m : Int) < (inn : Int) + 1 := by omega
                      have hvm2 : (m : Int) < ((inn + 1 : Nat) : Int) := by omega
                      have hov : Hid (true = true → ∃ t, t < S ∧ (Rsp.gd (Stp.goodL (Stp.csAt k m ch y t)) q).length < k) := fun _ => ⟨x / q, by
                        rw [Nat.div_lt_iff_lt_mul q1, hNC.out]; exact hlt2, hOO.out hvm⟩
                      go_wp2_with fail
                      go_roundw
                      case rel => exact ⟨x + 1, inn + 1, true, by first | rfl | go_num, by first | rfl | exact congrArg Value.bool (decide_eq_true (by omega)), by go_num, by omega, by omega, hMn, by first | exact hov | exact (fun _ => hov.out trivial), HB8, HO8⟩
                      case measure => simp [intOf]; omega
                    · have hvm' : ¬ (m : Int) < (inn : Int) + 1 := by omega
                      have hvm2 : ¬ (m : Int) < ((inn + 1 : Nat) : Int) := by omega
                      go_wp2_with fail
                      go_roundw
                      case rel => exact ⟨x + 1, inn + 1, false, by first | rfl | go_num, by first | rfl | exact congrArg Value.bool (decide_eq_false (by omega)), by go_num, by omega, by omega, hMn, by first | exact hOV | exact (fun _ => hOV.out trivial), HB8, HO8⟩
                      case measure => simp [intOf]; omega
            · have hge2 : ¬ (x : Int) < (NC : Int) := by omega
              obtain rfl : x = NC := by omega
              have hcap5 := own_cap HOd.out
              have KR7 := KR.out wr (HB3.out.trans (HBd.out.mono hsz3)) y A4 c4 hcap5.1 hcap5.2 (Reads.of_own HOd.out)
              have hO2 := Lib.hid (fun t ht ho => OVER.out y HY.out t ht ho)
              unfold RdRet at KR7
              generalize Stp.rdV k m ch n S y = RV at *
              generalize Stp.rdB k m ch n S y = RB at *
              generalize Stp.rdE k m ch n S y = RE at *
              have HBw := Lib.hid (HB3.out.trans (HBd.out.mono hsz3))
              cases ov with
              | false =>
                generalize RV.length = rv at *
                generalize RB.length = rb at *
                replace KR7 := Lib.hid KR7
                clear hO2
                go_wp2_with fail
                refine KR7.out.mono ?_; rintro e w9 ⟨A9, c9, A10, c10, rfl, hr9, hr10, hB9⟩
                have HB9 := Lib.hid (HBw.out.trans (hB9.mono HBw.out.size))
                clear KR7 hr9 hr10 hB9
                go_wp2_with fail
                go_ret
                exact ⟨rfl, HB9.out⟩
              | true =>
                obtain ⟨t, ht, ho⟩ := hOV.out rfl
                obtain ⟨hE, hv, hb⟩ := hO2.out t ht ho
                subst hv
                subst hb
                replace KR7 := Lib.hid KR7
                clear hO2 ho ht hOV
                rcases hE with hE | hE
                · subst hE
                  go_wp2_with fail
                  refine KR7.out.mono ?_; rintro e w9 ⟨A9, c9, A10, c10, rfl, hr9, hr10, hB9⟩
                  have HB9 := Lib.hid (HBw.out.trans (hB9.mono HBw.out.size))
                  clear KR7 hr9 hr10 hB9
                  go_wp2_with fail
                  go_ret
                  exact ⟨rfl, HB9.out⟩
                · subst hE
                  go_wp2_with fail
                  refine KR7.out.mono ?_; rintro e w9 ⟨A9, c9, A10, c10, rfl, hr9, hr10, hB9⟩
                  have HB9 := Lib.hid (HBw.out.trans (hB9.mono HBw.out.size))
                  clear KR7 hr9 hr10 hB9
                  go_wp2_with fail
                  go_ret
                  exact ⟨rfl, HB9.out⟩
end Go.Proofs.YtjbedcgacnnanaaDoor
