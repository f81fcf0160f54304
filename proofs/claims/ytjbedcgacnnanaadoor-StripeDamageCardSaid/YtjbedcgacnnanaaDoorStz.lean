/-
  The law StripeMends, walked.
-/
import Derived.Test.YtjbedcgacnnanaaDoorBsw
namespace Go.Proofs.YtjbedcgacnnanaaDoor
set_option linter.unusedSimpArgs false
set_option linter.unusedVariables false
open Go.RowKit

theorem u8_xor_byte (z : UInt8) (b : Nat) (hb : b < 256) : bits .xor .u8 (z.toNat : Int) (b : Int) = ((z ^^^ UInt8.ofNat b).toNat : Int) := by
  rw [u8_xor_lit z.toNat b (UInt8.toNat_lt z) hb, UInt8.toNat_xor, UInt8.toNat_ofNat', Nat.mod_eq_of_lt hb]
/-- a byte of a row of the call's own turned -/
theorem own_turned {W : World} {base g n c : Nat} {y : List UInt8} {i : Nat} (h : W.ownsRow base 5 1 (.slice (some ⟨g, 0, none⟩) n c) n (y.map B8)) (u : UInt8) : (W.setCell ⟨g, i, none⟩ (B8 u)).ownsRow base 5 1 (.slice (some ⟨g, 0, none⟩) n c) n ((y.set i u).map B8) := by
  rw [List.map_set]
  exact (h.stored i _).1
/-- what the laws on hurt stripes lay ahead: a shape, Lay's and Read's contracts -/
theorem law_parts (a b c0 : Nat) (A : Option Addr) (n c : Nat) (bs : List UInt8) (w : World) (hnc : n ≤ c) (hcm : c ≤ maxLen) (hr : Reads w w.heap.size 1 A n (bs.map B8)) (ht : Tab w) (hn6 : n ≤ 600) :
    ∃ k m ch q ce S T : Nat, 1 + a % 6 = k ∧ b % 5 = m ∧ 1 + c0 % 24 = ch ∧ 1 ≤ k ∧ k ≤ 6 ∧ m ≤ 4 ∧ 1 ≤ ch ∧ ch ≤ 24 ∧ k + m = q ∧ ch + 4 = ce ∧ T ≤ 168000 ∧ T = S * q * ce ∧ (Stp.layV k m ch bs).length = T ∧ S * q ≤ 168000 ∧
      Shp k m ch n S (k * ch) ((k + m) * (ch + 4)) (S * (k * ch)) T ∧
      (∀ W, Below w.heap.size w W → Calls Tryd.prog 12 #[.int .i64 k, .int .i64 m, .int .i64 ch, .slice A n c] W (SlErrN 5 W T (Stp.layV k m ch bs) 0)) ∧
      (∀ W, Below w.heap.size w W → ∀ (y : List UInt8) (A' : Option Addr) (c' : Nat), T ≤ c' → c' ≤ maxLen → Reads W W.heap.size 1 A' T (y.map B8) → Calls Tryd.prog 15 #[.int .i64 k, .int .i64 m, .int .i64 ch, .int .i64 n, .slice A' T c'] W (RdRet W (Stp.rdV k m ch n S y) (Stp.rdB k m ch n S y) (Stp.rdE k m ch n S y))) := by
  have k1 : 1 ≤ 1 + a % 6 ∧ 1 + a % 6 ≤ 6 := by omega
  have m1 : b % 5 ≤ 4 := by omega
  have ch1 : 1 ≤ 1 + c0 % 24 ∧ 1 + c0 % 24 ≤ 24 := by omega
  have hn := hr.len
  generalize 1 + a % 6 = k at *
  generalize b % 5 = m at *
  generalize 1 + c0 % 24 = ch at *
  obtain ⟨sh, hsz⟩ := Stp.law_shp k1.1 k1.2 m1 ch1.1 ch1.2 hn6
  have hTe : Stp.size k m ch n = Stp.num (k * ch) n * (k + m) * (ch + 4) := by unfold Stp.size; rw [Nat.mul_assoc]
  refine ⟨k, m, ch, _, _, Stp.num (k * ch) n, Stp.size k m ch n, rfl, rfl, rfl, k1.1, k1.2, m1, ch1.1, ch1.2, rfl, rfl, hsz, hTe, by rw [Stp.layV_len (Stp.data_pos k1.1 ch1.1), hn], ?_, sh, fun W hB => lay_in k m ch n _ _ _ _ _ A c bs W sh (ht.below hB ht.pos) ((hr.below hB).more hB.size) hnc hcm, fun W hB y A' c' h1 h2 hx => read_in k m ch n _ _ _ _ _ A' c' y W sh (ht.below hB ht.pos) hx h1 h2⟩
  have : Stp.num (k * ch) n * (k + m) ≤ Stp.size k m ch n := by rw [hTe]; exact Nat.le_mul_of_pos_right _ (by omega)
  omega
set_option maxRecDepth 100000 in
set_option maxHeartbeats 16000000 in
theorem stripeMends_walk (a b c0 : Nat) (A : Option Addr) (n c : Nat) (bs : List UInt8) (At : Option Addr) (nt ct : Nat) (ts : List (Nat × Nat)) (w : World) (hs : a < 256 ∧ b < 256 ∧ c0 < 256) (hnc : n ≤ c) (hcm : c ≤ maxLen) (hr : Reads w w.heap.size 1 A n (bs.map B8)) (_hnt : nt ≤ ct) (_hct : ct ≤ maxLen) (hts : Reads w w.heap.size 2 At nt (turnsC ts) ∧ ∀ t ∈ ts, t.1 < 65536 ∧ t.2 < 256) (ht : Tab w) :
    Calls Tryd.prog 7 #[.agg #[.int .u8 a, .int .u8 b, .int .u8 c0], .slice A n c, .slice At nt ct] w fun e w' => e = .returned (.bool true) ∧ Below w.heap.size w w' := by
  have KA := Lib.hid (fun W (hB : Below w.heap.size w W) => stAlive_any W (ht.below hB ht.pos))
  have KO := Lib.hid (fun W => of_any a b c0 W hs.1 hs.2.1 hs.2.2)
  have hbk := Blk.new w 38 #[.int .u8 a, .int .u8 b, .int .u8 c0]
  have hBA := (Below.refl w.heap.size w).alloc (Nat.le_refl _) (.cells #[.int .u8 a, .int .u8 b, .int .u8 c0] 38)
  obtain ⟨W1, hW1⟩ : ∃ W1, w.alloc (.cells #[.int .u8 a, .int .u8 b, .int .u8 c0] 38) = W1 := ⟨_, rfl⟩
  have hbk1 : Blk W1 w.heap.size 38 #[.int .u8 a, .int .u8 b, .int .u8 c0] := hW1 ▸ hbk
  have hB1 : Below w.heap.size w W1 := hW1 ▸ hBA
  clear hbk hBA
  have KA1 := Lib.hid (KA.out W1 hB1)
  clear KA
  by_cases hl : 600 < n ∨ 60 < nt
  · replace hB1 := Lib.hid hB1; replace hbk1 := Lib.hid hbk1; replace hW1 := Lib.hid hW1
    have hcase : (600 < n) ∨ (¬ 600 < n ∧ 60 < nt) := by omega
    clear hr ht hts hl
    rcases hcase with hl | ⟨hl, hl2⟩
    · have hl' : (600 : Int) < (n : Int) := by omega
      go_enter Tryd.func7, Tryd.ntmps7
      go_wp2_with fail
      rw [hW1.out]
      refine KA1.out.mono ?_; rintro e w2 ⟨rfl, hB2⟩
      have HB2 := Lib.hid (hB1.out.trans (hB2.mono hB1.out.size))
      clear hB2
      go_wp2_with fail
      go_ret
      exact ⟨rfl, HB2.out⟩
    · have hl' : ¬ (600 : Int) < (n : Int) := by omega
      have hl2' : (60 : Int) < (nt : Int) := by omega
      go_enter Tryd.func7, Tryd.ntmps7
      go_wp2_with fail
      rw [hW1.out]
      refine KA1.out.mono ?_; rintro e w2 ⟨rfl, hB2⟩
      have HB2 := Lib.hid (hB1.out.trans (hB2.mono hB1.out.size))
      clear hB2
      go_wp2_with fail
      go_ret
      exact ⟨rfl, HB2.out⟩
  · have hl' : ¬ (600 : Int) < (n : Int) := by omega
    have hl2' : ¬ (60 : Int) < (nt : Int) := by omega
    have hn := Lib.hid hr.len
    obtain ⟨k, m, ch, q, ce, S, T, ek, em, ech, k1, k2, m1, ch1, ch2, hq, hce, hT, hTe, hVl, hSq, sh, KL, KR⟩ := law_parts a b c0 A n c bs w hnc hcm hr ht (by omega)
    rw [ek, em, ech] at KO
    have LG := Lib.hid (fun i hi => Stp.lay_good sh hn.out i hi)
    have HURT := Lib.hid (fun (y : List UInt8) (hy : y.length = T) h => Stp.hurt_read sh hn.out hy h)
    rw [hq, hce] at LG
    rw [hq, hce] at HURT
    unfold SlErrN at KL
    replace KL := Lib.hid KL; replace KR := Lib.hid KR
    have HRB := Lib.hid (fun W (hB : Below w.heap.size w W) => (hr.below hB).more hB.size)
    have HTS := Lib.hid (fun W (hB : Below w.heap.size w W) => hts.1.below hB)
    have htl : ts.length = nt := by have := hts.1.1; rw [turnsC_len] at this; omega
    have TSB := Lib.hid hts.2
    obtain ⟨V, hV⟩ : ∃ V, Stp.layV k m ch bs = V := ⟨_, rfl⟩
    rw [hV] at hVl KL LG HURT
    have q1 : 0 < q := by omega
    have q2 : q ≤ 10 := by omega
    have ce1 : ce ≤ 28 := by omega
    have ce5 : 5 ≤ ce := by omega
    have hkq : (k : Int) + (m : Int) = (q : Int) := by omega
    have hce' : (ch : Int) + 4 = (ce : Int) := by omega
    have HQ := Lib.hid hq; have HCE := Lib.hid hce; have HTE := Lib.hid hTe
    obtain ⟨NC, hNC⟩ : ∃ NC, S * q = NC := ⟨_, rfl⟩
    rw [hNC] at hSq hTe LG HURT
    have hquo : (T : Int).tdiv (ce : Int) = (NC : Int) := by
      rw [Int.tdiv_eq_ediv_of_nonneg (by omega), hTe]
      rw [← Int.natCast_ediv, Nat.mul_div_cancel _ (by omega)]
    have hce0 : ((ce : Int) == 0) = false := by simp; omega
    have hce1 : ¬ (ce : Int) = 0 := by omega
    have hNCe := Lib.hid hTe
    replace hNC := Lib.hid hNC; replace hV := Lib.hid hV; replace hVl := Lib.hid hVl
    replace hB1 := Lib.hid hB1; replace hbk1 := Lib.hid hbk1; replace hW1 := Lib.hid hW1
    obtain ⟨i0, hi, hz0, hz1, hz2⟩ := info_parts info_u8
    replace hi := Lib.hid hi; replace hz0 := Lib.hid hz0; replace hz1 := Lib.hid hz1; replace hz2 := Lib.hid hz2
    obtain ⟨i2, hj, hx0, hx1, hx2⟩ := info_parts info_i64o
    replace hj := Lib.hid hj; replace hx0 := Lib.hid hx0; replace hx1 := Lib.hid hx1; replace hx2 := Lib.hid hx2
    have htl2 := Lib.hid htl
    clear hr ht hts hl sh ek em ech hq hce hTe htl
    go_enter Tryd.func7, Tryd.ntmps7
    go_wp2_with fail
    rw [hW1.out]
    refine KA1.out.mono ?_; rintro e w2 ⟨rfl, hB2⟩
    have hbk2 := hbk1.out.below hB2 hbk1.out.lt
    have q0' := hbk2.cell 0
    have q1' := hbk2.cell 1
    have q2' := hbk2.cell 2
    have HB2 := Lib.hid (hB1.out.trans (hB2.mono hB1.out.size))
    clear hB2 hbk2
    go_wp2_with fail
    refine (KO.out _).mono ?_; rintro e w3 ⟨rfl, hB3⟩
    have HB3 := Lib.hid (below_then HB2.out hB3)
    have KL3 := Lib.hid (KL.out w3 HB3.out)
    clear hB3 q0' q1' q2'
    go_wp2_with fail
    refine KL3.out.mono ?_; rintro e w4 ⟨A4, c4, rfl, hf4⟩
    have HB4 := Lib.hid (below_then HB3.out hf4.2)
    have hcap4 := own_cap hf4.1
    have HR4 := Lib.hid hf4.reads
    have hsz4 : w.heap.size ≤ w4.heap.size := HB4.out.size
    clear KL3 hf4 KA1 KO KL HB3 HB2 hbk1 hB1
    have ho5 := own_empty w4 w4.heap.size 5 (Nat.le_refl _)
    have hA5 : Below w4.heap.size w4 (w4.alloc (.cells #[] 5)) := (Below.refl _ _).alloc (Nat.le_refl _) _
    have ONE : Hid (∀ u ∈ V.map B8, u.oneCell' = true) := row_one HR4.out
    have hR5a := HR4.out.below hA5
    replace hA5 := Lib.hid hA5; replace ho5 := Lib.hid ho5; replace hR5a := Lib.hid hR5a
    have hT1 : 0 + T ≤ maxLen := by unfold maxLen; omega
    have hT2 : (0 + T) * 1 ≤ 140737488355328 := by omega
    go_wp2_with (at_builtin; refine wpList_append_any _ rfl (.tmp 51) (.tmp 52) 27 rfl w4.heap.size 5 i0 (.int .u8 0) 1 1 Tryd.underlying27 hi.out hz0.out hz1.out hz2.out rfl (by omega) _ 0 0 [] rfl ho5.out w4.heap.size A4 T c4 _ rfl hR5a.out ONE.out hT1 hT2 hA5.out.size ?_; intro A5 c5 w5 ho6 hg6 _hs6; have HB5 : Below w4.heap.size w4 w5 := below_app hA5.out hg6 ho5.out hA5.out.size; replace HB5 := Lib.hid HB5; replace ho6 := Lib.hid ho6; clear hg6 _hs6)
    have ho7 : Hid (w5.ownsRow w4.heap.size 5 1 (.slice A5 T c5) T (V.map B8)) := by
      have h := ho6.out
      rw [Nat.zero_add] at h
      exact h
    have hw45 : w4.heap.size ≤ w5.heap.size := HB5.out.size
    clear ho6 ho5 hA5 hR5a ONE hT1 hT2
    go_loopw [13] (fun v13 wr => ∃ (i : Nat) (y : List UInt8), v13 = .int .i64 (i : Nat) ∧ i ≤ nt ∧ Hid (y.length = T) ∧ Hid (Below w4.heap.size w4 wr) ∧ Hid (wr.ownsRow w4.heap.size 5 1 (.slice A5 T c5) T (y.map B8))) (fun v13 _ => nt - (intOf v13).toNat)
    case atStart => exact ⟨0, V, rfl, Nat.zero_le _, hVl, HB5, ho7⟩
    case round =>
      clear ho7 HB5
      obtain ⟨i, y, rfl, hin, HY, HB, HO⟩ := hrel
      by_cases hlt : i < nt ∧ 0 < T
      · obtain ⟨hlt, hT0⟩ := hlt
        have hlt' : (i : Int) < (nt : Int) := by omega
        have hT0' : (0 : Int) < (T : Int) := by omega
        have hi0 : (0 : Int) ≤ (i : Int) := by omega
        obtain ⟨ad, hAd, -, k0, k1'⟩ := turn_cells (HTS.out wr (HB4.out.trans (HB.out.mono hsz4))) i (by rw [htl2.out]; exact hlt)
        rw [show (ad.add (i * 2)).add 1 = ⟨(ad.add (i * 2)).block, (ad.add (i * 2)).off + 1, none⟩ from rfl] at k1'
        have htb := TSB.out _ (List.getElem_mem (show i < ts.length by rw [htl2.out]; exact hlt))
        generalize (ts[i]'(by rw [htl2.out]; exact hlt)) = tt at *
        obtain ⟨t1, tb⟩ := tt
        dsimp only at k0 k1' htb
        obtain ⟨ht1, ht2⟩ := htb
        subst hAd
        obtain ⟨g5, cap5, hv5, _, _⟩ := HO.out.form hT0
        have hA5 : A5 = some ⟨g5, 0, none⟩ := by injection hv5
        subst hA5
        obtain ⟨at_, hat⟩ : ∃ at_, t1 % T = at_ := ⟨_, rfl⟩
        have hatT : at_ < T := by rw [← hat]; exact Nat.mod_lt _ hT0
        have hrem : (t1 : Int).tmod (T : Int) = (at_ : Int) := by rw [Int.tmod_eq_emod_of_nonneg (by omega), ← hat]; rfl
        have hTz : ((T : Int) == 0) = false := by simp; omega
        have hTz1 : ¬ (T : Int) = 0 := by omega
        have hat0 : (0 : Int) ≤ (at_ : Int) := by omega
        have hat1 : (at_ : Int) < (T : Int) := by omega
        obtain ⟨z, hz⟩ : ∃ z, y[at_]? = some z := ⟨y[at_]'(by rw [HY.out]; exact hatT), List.getElem?_eq_getElem _⟩
        have k2 : wr.cell? ⟨g5, at_, none⟩ = some (.int .u8 (z.toNat : Int)) := by
          rw [HO.out.cellAt at_ (by omega), List.getElem?_map, hz]; rfl
        have hxor := u8_xor_byte z tb ht2
        have k3 := HO.out.frozenAt at_
        replace hat := Lib.hid hat; replace hz := Lib.hid hz
        clear hv5
        go_wp2_with fail
        refine region_E 12 (fun W => W.cell? ⟨g5, at_, none⟩ = some (.int .u8 (z.toNat : Int)) ∧ W.cell? ⟨(ad.add (i * 2)).block, (ad.add (i * 2)).off + 1, none⟩ = some (.int .u8 (tb : Int))) (by kernel_rfl) ⟨k2, k1'⟩ (fun hHeld => ?_)
        refine took 0 (v := ?_) rfl (by kernel_rfl) (by kernel_rfl) (by kernel_rfl) (by kernel_rfl) (fun _ _ _ h => h) (by rfl) (by assumption) ?_ ?_
        rotate_left
        · (intro W hSw; (try dsimp only at hSw); go_simp; first | done | with_reducible rfl)
        try simp only [Act.put, List.setIfInBounds_toArray, List.set_cons_zero, List.set_cons_succ]
        refine took 1 (v := ?_) rfl (by kernel_rfl) (by kernel_rfl) (by kernel_rfl) (by kernel_rfl) (fun _ _ _ h => h) (by rfl) (by assumption) ?_ ?_
        rotate_left
        · (intro W hSw; (try dsimp only at hSw); go_simp; first | done | with_reducible rfl)
        try simp only [Act.put, List.setIfInBounds_toArray, List.set_cons_zero, List.set_cons_succ]
        refine took 2 (v := ?_) rfl (by kernel_rfl) (by kernel_rfl) (by kernel_rfl) (by kernel_rfl) (fun _ _ _ h => h) (by rfl) (by assumption) ?_ ?_
        rotate_left
        · (intro W hSw; (try dsimp only at hSw); go_simp; first | done | with_reducible rfl)
        try simp only [Act.put, List.setIfInBounds_toArray, List.set_cons_zero, List.set_cons_succ]
        refine took 3 (v := ?_) rfl (by kernel_rfl) (by kernel_rfl) (by kernel_rfl) (by kernel_rfl) (fun _ _ _ h => h) (by rfl) (by assumption) ?_ ?_
        rotate_left
        · (intro W hSw; (try dsimp only at hSw); go_simp; first | done | with_reducible rfl)
        try simp only [Act.put, List.setIfInBounds_toArray, List.set_cons_zero, List.set_cons_succ]
        refine took 4 (v := ?_) rfl (by kernel_rfl) (by kernel_rfl) (by kernel_rfl) (by kernel_rfl) (fun _ _ _ h => h) (by rfl) (by assumption) ?_ ?_
        rotate_left
        · (intro W hSw; (try dsimp only at hSw); go_simp; first | done | with_reducible rfl)
        try simp only [Act.put, List.setIfInBounds_toArray, List.set_cons_zero, List.set_cons_succ]
        refine took 5 (v := ?_) rfl (by kernel_rfl) (by kernel_rfl) (by kernel_rfl) (by kernel_rfl) (fun _ _ _ h => h) (by rfl) (by assumption) ?_ ?_
        rotate_left
        · (intro W hSw; (try dsimp only at hSw); go_simp; first | done | with_reducible rfl)
        try simp only [Act.put, List.setIfInBounds_toArray, List.set_cons_zero, List.set_cons_succ]
        refine took 6 (v := ?_) rfl (by kernel_rfl) (by kernel_rfl) (by kernel_rfl) (by kernel_rfl) (fun _ _ _ h => h) (by rfl) (by assumption) ?_ ?_
        rotate_left
        · (intro W hSw; (try dsimp only at hSw); go_simp; first | done | with_reducible rfl)
        try simp only [Act.put, List.setIfInBounds_toArray, List.set_cons_zero, List.set_cons_succ]
        refine took 7 (v := ?_) rfl (by kernel_rfl) (by kernel_rfl) (by kernel_rfl) (by kernel_rfl) (fun _ _ _ h => h) (by rfl) (by assumption) ?_ ?_
        rotate_left
        · (intro W hSw; (try dsimp only at hSw); go_simp; first | done | with_reducible rfl)
        try simp only [Act.put, List.setIfInBounds_toArray, List.set_cons_zero, List.set_cons_succ]
        refine took 8 (v := ?_) rfl (by kernel_rfl) (by kernel_rfl) (by kernel_rfl) (by kernel_rfl) (fun _ _ _ h => h) (by rfl) (by assumption) ?_ ?_
        rotate_left
        · (intro W hSw; (try dsimp only at hSw); go_simp; first | done | with_reducible rfl)
        try simp only [Act.put, List.setIfInBounds_toArray, List.set_cons_zero, List.set_cons_succ]
        refine took 9 (v := ?_) rfl (by kernel_rfl) (by kernel_rfl) (by kernel_rfl) (by kernel_rfl) (fun _ _ _ h => h) (by rfl) (by assumption) ?_ ?_
        rotate_left
        · (intro W hSw; (try dsimp only at hSw); go_simp; first | done | with_reducible rfl)
        try simp only [Act.put, List.setIfInBounds_toArray, List.set_cons_zero, List.set_cons_succ]
        refine took 10 (v := ?_) rfl (by kernel_rfl) (by kernel_rfl) (by kernel_rfl) (by kernel_rfl) (fun _ _ _ h => h) (by rfl) (by assumption) ?_ ?_
        rotate_left
        · (intro W hSw; (try dsimp only at hSw); go_simp; first | done | with_reducible rfl)
        try simp only [Act.put, List.setIfInBounds_toArray, List.set_cons_zero, List.set_cons_succ]
        refine took 11 (v := ?_) rfl (by kernel_rfl) (by kernel_rfl) (by kernel_rfl) (by kernel_rfl) (fun _ _ _ h => h) (by rfl) (by assumption) ?_ ?_
        rotate_left
        · (intro W hSw; (try dsimp only at hSw); go_simp; first | done | with_reducible rfl)
        try simp only [Act.put, List.setIfInBounds_toArray, List.set_cons_zero, List.set_cons_succ]
        refine lately 12 rfl (by kernel_rfl) (by decide) (by rfl) (fun K hK => ?_)
        go_simp
        refine hK.out _ _ ?_
        clear hK K
        try simp only [Act.put, List.setIfInBounds_toArray, List.set_cons_zero, List.set_cons_succ]
        refine lately 13 rfl (by kernel_rfl) (by decide) (by rfl) (fun K hK => ?_)
        go_simp
        refine hK.out _ _ ?_
        clear hK K
        try simp only [Act.put, List.setIfInBounds_toArray, List.set_cons_zero, List.set_cons_succ]
        refine allDone (by kernel_rfl) ?_ _
        have hge5 : w4.heap.size ≤ g5 := (HO.out.lt g5 (by rw [ownBlock_slice]; rfl)).1
        have HB' := Lib.hid ((HB.out.drew).setCell (p := ⟨g5, at_, none⟩) hge5 (B8 (z ^^^ UInt8.ofNat tb)))
        have HO' := Lib.hid (own_turned (i := at_) HO.out.drew (z ^^^ UInt8.ofNat tb))
        clear hHeld
        go_wp2_with fail
        go_roundw
        case rel => exact ⟨i + 1, y.set at_ (z ^^^ UInt8.ofNat tb), by go_num, by omega, by rw [Hid, List.length_set]; exact HY.out, HB', HO'⟩
        case measure => simp [intOf]; omega
      · have hcase : (i < nt ∧ T = 0) ∨ ¬ i < nt := by omega
        clear hlt
        rcases hcase with ⟨hlt, hT0⟩ | hlt
        · have hlt' : (i : Int) < (nt : Int) := by omega
          have hT0' : ¬ (0 : Int) < (T : Int) := by omega
          have hN0 : NC = 0 := by
            rcases Nat.eq_zero_or_pos NC with h | h
            · exact h
            · have h2 := hNCe.out
              have h3 := Nat.mul_le_mul h ce5
              omega
          replace hT0 := Lib.hid hT0; replace hN0 := Lib.hid hN0
          obtain ⟨W6, hW6⟩ : ∃ W6, W6 = wr := ⟨_, rfl⟩
          subst hW6
          have hw46 : w4.heap.size ≤ W6.heap.size := HB.out.size
          go_wp2_with fail
          go_loopw [15, 16, 17] (fun v15 v16 v17 wr => ∃ (x inn nc c15 : Nat) (A15 : Option Addr), v15 = .slice A15 nc c15 ∧ v16 = .int .i64 (inn : Nat) ∧ v17 = .int .i64 (x : Nat) ∧ x ≤ NC ∧ nc ≤ x ∧ Hid (Stp.Mst k m ch q V y x inn) ∧ Hid (Below w4.heap.size w4 wr) ∧ Hid (wr.ownsRow w4.heap.size 5 1 (.slice A5 T c5) T (y.map B8)) ∧ Hid (wr.ownsRow w4.heap.size 3 1 (.slice A15 nc c15) nc ((Stp.badTo ce y x).map NV))) (fun _ _ v17 _ => NC - (intOf v17).toNat)
          case atStart => exact ⟨0, 0, 0, 0, none, rfl, rfl, rfl, Nat.zero_le _, Nat.le_refl _, Stp.Mst.start q1, HB, HO, by simpa [Hid, Stp.badTo] using World.ownsRow_nil W6 w4.heap.size 3 1⟩
          case round =>
            clear HB HO
            obtain ⟨x, inn, nc, c15, A15, rfl, rfl, rfl, hxN, hnx, HM, HBd, HOd, HDd⟩ := hrel
            by_cases hlt2 : x < NC
            · exact absurd hlt2 (by rw [hN0.out]; exact Nat.not_lt_zero _)
            · have hge2 : ¬ (x : Int) < (NC : Int) := by omega
              obtain rfl : x = NC := by omega
              have hH := Stp.Mst.hurt (S := S) (inn := inn) (by rw [hNC.out]; exact HM.out) HQ.out
              have hrd := HURT.out y HY.out hH
              have hcap5 := own_cap HOd.out
              have hdl : (Stp.badTo ce y x).length = nc := by have := HDd.out.1; simpa using this
              have KR7 := KR.out wr (HB4.out.trans (HBd.out.mono hsz4)) y A5 c5 hcap5.1 hcap5.2 (Reads.of_own HOd.out)
              rw [hrd.1, hrd.2.1, hrd.2.2] at KR7
              unfold RdRet at KR7
              rw [hn.out, hdl] at KR7
              replace KR7 := Lib.hid KR7
              generalize Stp.badTo ce y x = BD at *
              clear hrd hH
              go_wp2_with fail
              refine KR7.out.mono ?_; rintro e w9 ⟨A9, c9, A10, c10, rfl, hr9, hr10, hB9⟩
              have HB9 := Lib.hid (HBd.out.trans (hB9.mono HBd.out.size))
              have HBw9 := Lib.hid (HB4.out.trans (HB9.out.mono hsz4))
              have KS := Lib.hid (same_any A9 A n n c9 c _ _ bs bs w9 hr9 (HRB.out w9 HBw9.out))
              rw [decide_eq_true rfl] at KS
              have KN := Lib.hid (sameN_any A10 A15 nc c10 c15 _ _ BD w9 hr10 (Reads.of_own (own_belowL HDd.out hB9)) (by omega))
              clear KR7 hr9 hr10 hB9
              go_wp2_with fail
              refine KS.out.mono ?_; rintro e w10 ⟨rfl, rfl⟩
              go_wp2_with fail
              refine KN.out.mono ?_; rintro e w11 ⟨rfl, hD11⟩
              have HB11 := Lib.hid (HBw9.out.trans (hD11.below _))
              clear hD11
              go_wp2_with fail
              go_ret
              exact ⟨rfl, HB11.out⟩
        · have hlt' : ¬ (i : Int) < (nt : Int) := by omega
          obtain ⟨W6, hW6⟩ : ∃ W6, W6 = wr := ⟨_, rfl⟩
          subst hW6
          have hw46 : w4.heap.size ≤ W6.heap.size := HB.out.size
          go_wp2_with fail
          go_loopw [15, 16, 17] (fun v15 v16 v17 wr => ∃ (x inn nc c15 : Nat) (A15 : Option Addr), v15 = .slice A15 nc c15 ∧ v16 = .int .i64 (inn : Nat) ∧ v17 = .int .i64 (x : Nat) ∧ x ≤ NC ∧ nc ≤ x ∧ Hid (Stp.Mst k m ch q V y x inn) ∧ Hid (Below w4.heap.size w4 wr) ∧ Hid (wr.ownsRow w4.heap.size 5 1 (.slice A5 T c5) T (y.map B8)) ∧ Hid (wr.ownsRow w4.heap.size 3 1 (.slice A15 nc c15) nc ((Stp.badTo ce y x).map NV))) (fun _ _ v17 _ => NC - (intOf v17).toNat)
          case atStart => exact ⟨0, 0, 0, 0, none, rfl, rfl, rfl, Nat.zero_le _, Nat.le_refl _, Stp.Mst.start q1, HB, HO, by simpa [Hid, Stp.badTo] using World.ownsRow_nil W6 w4.heap.size 3 1⟩
          case round =>
            clear HB HO
            obtain ⟨x, inn, nc, c15, A15, rfl, rfl, rfl, hxN, hnx, HM, HBd, HOd, HDd⟩ := hrel
            by_cases hlt2 : x < NC
            · have hlt2' : (x : Int) < (NC : Int) := by omega
              obtain ⟨p, hp⟩ : ∃ p, x * ce = p := ⟨_, rfl⟩
              obtain ⟨x1, hx1'⟩ : ∃ x1, x + 1 = x1 := ⟨_, rfl⟩
              obtain ⟨p2, hp2⟩ : ∃ p2, p + ce = p2 := ⟨_, rfl⟩
              have hx1ce : x1 * ce = p2 := by rw [← hx1', Nat.succ_mul, hp, hp2]
              have hp2T : p2 ≤ T := by
                have h1 := Nat.mul_le_mul_right ce (show x1 ≤ NC by omega)
                rw [hx1ce] at h1
                have h2 := hNCe.out
                omega
              have hmul1 : (x : Int) * (ce : Int) = (p : Int) := by rw [← hp, Int.natCast_mul]
              have hmul2 : (x1 : Int) * (ce : Int) = (p2 : Int) := by rw [← hx1ce, Int.natCast_mul]
              obtain ⟨r, hr⟩ : ∃ r, x % q = r := ⟨_, rfl⟩
              have hremq : (x : Int).tmod (q : Int) = (r : Int) := by rw [Int.tmod_eq_emod_of_nonneg (by omega), ← hr]; rfl
              have hqz : ((q : Int) == 0) = false := by simp; omega
              have hqz1 : ¬ (q : Int) = 0 := by omega
              have hcap5 := own_cap HOd.out
              have hcutx := run_cut_lh (P := Tryd.prog) 27 5 i0 1 Tryd.underlying27 hi.out hz1.out A4 T c4 p p2 .i64 .i64 (by omega) (by omega)
              have hcuty := run_cut_lh (P := Tryd.prog) 27 5 i0 1 Tryd.underlying27 hi.out hz1.out A5 T c5 p p2 .i64 .i64 (by omega) (by omega)
              rw [show p2 - p = ce by omega] at hcutx hcuty
              replace HBd := Lib.hid HBd.out.drew
              replace HOd := Lib.hid HOd.out.drew
              replace HDd := Lib.hid HDd.out.drew
              have hRx : Hid (Reads wr.drew wr.drew.heap.size 1 (cutA A4 c4 p 1) ce ((Stp.chunkB V ce x).map B8)) := by
                have h1 := ((HR4.out.below HBd.out).more HBd.out.size).cutN (show p ≤ T by omega) hcap4.1
                have h2 := h1.takeN (show ce ≤ T - p by omega)
                rw [← hp] at h2
                rw [← hp]; exact h2
              have hRy : Hid (Reads wr.drew wr.drew.heap.size 1 (cutA A5 c5 p 1) ce ((Stp.chunkB y ce x).map B8)) := by
                have h1 := (Reads.of_own HOd.out).cutN (show p ≤ T by omega) hcap5.1
                have h2 := h1.takeN (show ce ≤ T - p by omega)
                rw [← hp] at h2
                rw [← hp]; exact h2
              have KS := Lib.hid (same_any (cutA A4 c4 p 1) (cutA A5 c5 p 1) ce ce (c4 - p) (c5 - p) _ _ _ _ wr.drew hRx.out hRy.out)
              have KC := Lib.hid (refCut_any (cutA A5 c5 p 1) ce (c5 - p) (Stp.chunkB y ce x) wr.drew hRy.out (by omega) (by omega))
              unfold SlErr at KC
              have hpb : p ≤ 168000 := by omega
              have hp2b : p2 ≤ 168000 := by omega
              have hx1b : x1 ≤ 168001 := by omega
              have hx1c : Hid ((x : Int) + 1 = (x1 : Int)) := by rw [Hid]; omega
              replace hp := Lib.hid hp; replace hx1ce := Lib.hid hx1ce; replace hp2 := Lib.hid hp2
              clear hRx hRy
              by_cases hr0 : r = 0
              · have hv : Stp.inAt q x inn = 0 := by unfold Stp.inAt; rw [if_pos (hr.trans hr0)]
                have hr0' : ((r : Int) == 0) = true := by rw [hr0]; rfl
                have hr0'' : (r : Int) = 0 := by omega
                replace hr := Lib.hid hr
                replace hx1' := Lib.hid hx1'
                have hvb : 0 ≤ m := by have := HM.out.inm; omega
                have wce : IntKind.i64.wrap (ce : Int) = (ce : Int) := by rw [IntKind.wrap_i64]; omega
                have wce2 : IntKind.i64.wrap ((ch : Int) + 4) = (ce : Int) := by rw [IntKind.wrap_i64]; omega
                have wp : IntKind.i64.wrap (p : Int) = (p : Int) := by rw [IntKind.wrap_i64]; omega
                have wp2 : IntKind.i64.wrap (p2 : Int) = (p2 : Int) := by rw [IntKind.wrap_i64]; omega
                have wx1 : IntKind.i64.wrap ((x : Int) + 1) = (x1 : Int) := by rw [hx1c.out, IntKind.wrap_i64]; omega
                have wm1 : IntKind.i64.wrap ((x : Int) * (ce : Int)) = (p : Int) := by rw [hmul1, IntKind.wrap_i64]; omega
                have wm2 : IntKind.i64.wrap ((x1 : Int) * (ce : Int)) = (p2 : Int) := by rw [hmul2, IntKind.wrap_i64]; omega
                go_wp2_with fail
                refine region_E 24 (fun _ => True) (by kernel_rfl) trivial (fun hHeld => ?_)
                refine took 0 (v := ?_) rfl (by kernel_rfl) (by kernel_rfl) (by kernel_rfl) (by kernel_rfl) (fun _ _ _ h => h) (by rfl) (by assumption) ?_ ?_
                rotate_left
                · (intro W hSw; (try dsimp only at hSw); go_simp; first | done | with_reducible rfl)
                try simp only [Act.put, List.setIfInBounds_toArray, List.set_cons_zero, List.set_cons_succ]
                refine took 1 (v := ?_) rfl (by kernel_rfl) (by kernel_rfl) (by kernel_rfl) (by kernel_rfl) (fun _ _ _ h => h) (by rfl) (by assumption) ?_ ?_
                rotate_left
                · (intro W hSw; (try dsimp only at hSw); go_simp; first | done | with_reducible rfl)
                try simp only [Act.put, List.setIfInBounds_toArray, List.set_cons_zero, List.set_cons_succ]
                refine took 2 (v := ?_) rfl (by kernel_rfl) (by kernel_rfl) (by kernel_rfl) (by kernel_rfl) (fun _ _ _ h => h) (by rfl) (by assumption) ?_ ?_
                rotate_left
                · (intro W hSw; (try dsimp only at hSw); go_simp; first | done | with_reducible rfl)
                try simp only [Act.put, List.setIfInBounds_toArray, List.set_cons_zero, List.set_cons_succ]
                refine took 3 (v := ?_) rfl (by kernel_rfl) (by kernel_rfl) (by kernel_rfl) (by kernel_rfl) (fun _ _ _ h => h) (by rfl) (by assumption) ?_ ?_
                rotate_left
                · (intro W hSw; (try dsimp only at hSw); go_simp; first | done | with_reducible rfl)
                try simp only [Act.put, List.setIfInBounds_toArray, List.set_cons_zero, List.set_cons_succ]
                refine took 4 (v := ?_) rfl (by kernel_rfl) (by kernel_rfl) (by kernel_rfl) (by kernel_rfl) (fun _ _ _ h => h) (by rfl) (by assumption) ?_ ?_
                rotate_left
                · (intro W hSw; (try dsimp only at hSw); go_simp; first | done | with_reducible rfl)
                try simp only [Act.put, List.setIfInBounds_toArray, List.set_cons_zero, List.set_cons_succ]
                refine took 5 (v := ?_) rfl (by kernel_rfl) (by kernel_rfl) (by kernel_rfl) (by kernel_rfl) (fun _ _ _ h => h) (by rfl) (by assumption) ?_ ?_
                rotate_left
                · (intro W hSw; (try dsimp only at hSw); go_simp; first | done | with_reducible rfl)
                try simp only [Act.put, List.setIfInBounds_toArray, List.set_cons_zero, List.set_cons_succ]
                refine took 6 (v := ?_) rfl (by kernel_rfl) (by kernel_rfl) (by kernel_rfl) (by kernel_rfl) (fun _ _ _ h => h) (by rfl) (by assumption) ?_ ?_
                rotate_left
                · (intro W hSw; (try dsimp only at hSw); go_simp; first | done | with_reducible rfl)
                try simp only [Act.put, List.setIfInBounds_toArray, List.set_cons_zero, List.set_cons_succ]
                refine took 7 (v := ?_) rfl (by kernel_rfl) (by kernel_rfl) (by kernel_rfl) (by kernel_rfl) (fun _ _ _ h => h) (by rfl) (by assumption) ?_ ?_
                rotate_left
                · (intro W hSw; (try dsimp only at hSw); go_simp; first | done | with_reducible rfl)
                try simp only [Act.put, List.setIfInBounds_toArray, List.set_cons_zero, List.set_cons_succ]
                refine took 8 (v := ?_) rfl (by kernel_rfl) (by kernel_rfl) (by kernel_rfl) (by kernel_rfl) (fun _ _ _ h => h) (by rfl) (by assumption) ?_ ?_
                rotate_left
                · (intro W hSw; (try dsimp only at hSw); go_simp; first | done | with_reducible rfl)
                try simp only [Act.put, List.setIfInBounds_toArray, List.set_cons_zero, List.set_cons_succ]
                refine took 9 (v := ?_) rfl (by kernel_rfl) (by kernel_rfl) (by kernel_rfl) (by kernel_rfl) (fun _ _ _ h => h) (by rfl) (by assumption) ?_ ?_
                rotate_left
                · (intro W hSw; (try dsimp only at hSw); go_simp; first | done | with_reducible rfl)
                try simp only [Act.put, List.setIfInBounds_toArray, List.set_cons_zero, List.set_cons_succ]
                refine took 10 (v := ?_) rfl (by kernel_rfl) (by kernel_rfl) (by kernel_rfl) (by kernel_rfl) (fun _ _ _ h => h) (by rfl) (by assumption) ?_ ?_
                rotate_left
                · (intro W hSw; (try dsimp only at hSw); go_simp; first | done | with_reducible rfl)
                try simp only [Act.put, List.setIfInBounds_toArray, List.set_cons_zero, List.set_cons_succ]
                refine took 11 (v := ?_) rfl (by kernel_rfl) (by kernel_rfl) (by kernel_rfl) (by kernel_rfl) (fun _ _ _ h => h) (by rfl) (by assumption) ?_ ?_
                rotate_left
                · (intro W hSw; (try dsimp only at hSw); go_simp; first | done | with_reducible rfl)
                try simp only [Act.put, List.setIfInBounds_toArray, List.set_cons_zero, List.set_cons_succ]
                refine took 12 (v := ?_) rfl (by kernel_rfl) (by kernel_rfl) (by kernel_rfl) (by kernel_rfl) (fun _ _ _ h => h) (by rfl) (by assumption) ?_ ?_
                rotate_left
                · (intro W hSw; (try dsimp only at hSw); go_simp; first | done | with_reducible rfl)
                try simp only [Act.put, List.setIfInBounds_toArray, List.set_cons_zero, List.set_cons_succ]
                refine took 13 (v := ?_) rfl (by kernel_rfl) (by kernel_rfl) (by kernel_rfl) (by kernel_rfl) (fun _ _ _ h => h) (by rfl) (by assumption) ?_ ?_
                rotate_left
                · (intro W hSw; (try dsimp only at hSw); go_simp; first | done | with_reducible rfl)
                try simp only [Act.put, List.setIfInBounds_toArray, List.set_cons_zero, List.set_cons_succ]
                refine took 14 (v := ?_) rfl (by kernel_rfl) (by kernel_rfl) (by kernel_rfl) (by kernel_rfl) (fun _ _ _ h => h) (by rfl) (by assumption) ?_ ?_
                rotate_left
                · (intro W hSw; (try dsimp only at hSw); go_simp; first | done | with_reducible rfl)
                try simp only [Act.put, List.setIfInBounds_toArray, List.set_cons_zero, List.set_cons_succ]
                refine took 15 (v := ?_) rfl (by kernel_rfl) (by kernel_rfl) (by kernel_rfl) (by kernel_rfl) (fun _ _ _ h => h) (by rfl) (by assumption) ?_ ?_
                rotate_left
                · (intro W hSw; (try dsimp only at hSw); go_simp; first | done | with_reducible rfl)
                try simp only [Act.put, List.setIfInBounds_toArray, List.set_cons_zero, List.set_cons_succ]
                refine took 16 (v := ?_) rfl (by kernel_rfl) (by kernel_rfl) (by kernel_rfl) (by kernel_rfl) (fun _ _ _ h => h) (by rfl) (by assumption) ?_ ?_
                rotate_left
                · (intro W hSw; (try dsimp only at hSw); go_simp; first | done | with_reducible rfl)
                try simp only [Act.put, List.setIfInBounds_toArray, List.set_cons_zero, List.set_cons_succ]
                refine took 17 (v := ?_) rfl (by kernel_rfl) (by kernel_rfl) (by kernel_rfl) (by kernel_rfl) (fun _ _ _ h => h) (by rfl) (by assumption) ?_ ?_
                rotate_left
                · (intro W hSw; (try dsimp only at hSw); go_simp; first | done | with_reducible rfl)
                try simp only [Act.put, List.setIfInBounds_toArray, List.set_cons_zero, List.set_cons_succ]
                refine took 18 (v := ?_) rfl (by kernel_rfl) (by kernel_rfl) (by kernel_rfl) (by kernel_rfl) (fun _ _ _ h => h) (by rfl) (by assumption) ?_ ?_
                rotate_left
                · (intro W hSw; (try dsimp only at hSw); go_simp; first | done | with_reducible rfl)
                try simp only [Act.put, List.setIfInBounds_toArray, List.set_cons_zero, List.set_cons_succ]
                refine took 19 (v := ?_) rfl (by kernel_rfl) (by kernel_rfl) (by kernel_rfl) (by kernel_rfl) (fun _ _ _ h => h) (by rfl) (by assumption) ?_ ?_
                rotate_left
                · (intro W hSw; (try dsimp only at hSw); go_simp; first | done | with_reducible rfl)
                try simp only [Act.put, List.setIfInBounds_toArray, List.set_cons_zero, List.set_cons_succ]
                refine took 20 (v := ?_) rfl (by kernel_rfl) (by kernel_rfl) (by kernel_rfl) (by kernel_rfl) (fun _ _ _ h => h) (by rfl) (by assumption) ?_ ?_
                rotate_left
                · (intro W hSw; (try dsimp only at hSw); go_simp; first | done | with_reducible rfl)
                try simp only [Act.put, List.setIfInBounds_toArray, List.set_cons_zero, List.set_cons_succ]
                refine took 21 (v := ?_) rfl (by kernel_rfl) (by kernel_rfl) (by kernel_rfl) (by kernel_rfl) (fun _ _ _ h => h) (by rfl) (by assumption) ?_ ?_
                rotate_left
                · (intro W hSw; (try dsimp only at hSw); go_simp; first | done | with_reducible rfl)
                try simp only [Act.put, List.setIfInBounds_toArray, List.set_cons_zero, List.set_cons_succ]
                refine took 22 (v := ?_) rfl (by kernel_rfl) (by kernel_rfl) (by kernel_rfl) (by kernel_rfl) (fun _ _ _ h => h) (by rfl) (by assumption) ?_ ?_
                rotate_left
                · (intro W hSw; (try dsimp only at hSw); go_simp; first | done | with_reducible rfl)
                try simp only [Act.put, List.setIfInBounds_toArray, List.set_cons_zero, List.set_cons_succ]
                refine took 23 (v := ?_) rfl (by kernel_rfl) (by kernel_rfl) (by kernel_rfl) (by kernel_rfl) (fun _ _ _ h => h) (by rfl) (by assumption) ?_ ?_
                rotate_left
                · (intro W hSw; (try dsimp only at hSw); go_simp; first | done | with_reducible rfl)
                try simp only [Act.put, List.setIfInBounds_toArray, List.set_cons_zero, List.set_cons_succ]
                refine allDone (by kernel_rfl) ?_ _
                clear hHeld wce wce2 wp wp2 wx1 wm1 wm2 hcutx hcuty hmul1 hmul2
                by_cases hvy : Stp.chunkB V ce x = Stp.chunkB y ce x
                · rw [decide_eq_true hvy] at KS
                  go_wp2_with fail
                  refine KS.out.mono ?_; rintro e w7 ⟨rfl, rfl⟩
                  have hMn := HM.out.good HQ.out q1 (by rw [HCE.out]; exact LG.out x hlt2) (by rw [HCE.out]; exact hvy)
                  have hgy : Stp.goodB (Stp.chunkB y ce x) = true := by rw [← hvy]; exact LG.out x hlt2
                  have hbt := Stp.badTo_step ce y x
                  rw [hgy, if_pos rfl, List.append_nil] at hbt
                  rw [hv] at hMn
                  replace hbt := Lib.hid hbt; replace hMn := Lib.hid hMn
                  clear KC hgy
                  go_wp2_with fail
                  go_roundw
                  case rel => exact ⟨x + 1, 0, nc, c15, A15, rfl, by first | rfl | go_num, by go_num, by omega, by omega, hMn, HBd, HOd, by rw [Hid, hbt.out]; exact HDd.out⟩
                  case measure => simp [intOf]; omega
                · rw [decide_eq_false hvy] at KS
                  go_wp2_with fail
                  refine KS.out.mono ?_; rintro e w7 ⟨rfl, rfl⟩
                  have hgd : Stp.goodB (Stp.chunkB y ce x) = decide (Crcp.cutE (Stp.chunkB y ce x) = 0) := rfl
                  obtain ⟨er, her⟩ : ∃ er, Crcp.cutE (Stp.chunkB y ce x) = er := ⟨_, rfl⟩
                  rw [her] at KC hgd
                  replace her := Lib.hid her
                  generalize Crcp.cutV (Stp.chunkB y ce x) = CV at *
                  go_wp2_with fail
                  refine KC.out.mono ?_; rintro e w8 ⟨A8, c8, rfl, hf8⟩
                  have HB8 := Lib.hid (HBd.out.trans (hf8.2.mono HBd.out.size))
                  have HO8 := Lib.hid (own_belowL HOd.out hf8.2)
                  have HD8 := Lib.hid (own_belowL HDd.out hf8.2)
                  clear hf8 KC
                  by_cases he : er = 0
                  · subst he
                    have HBw8 := Lib.hid (HB4.out.trans (HB8.out.mono hsz4))
                    clear hgd
                    go_wp2_with fail
                    go_ret
                    exact ⟨rfl, HBw8.out⟩
                  · rw [decide_eq_false he] at hgd
                    have e1 : (er == (0 : Int)) = false := by simp [he]
                    have e2 : (er != (0 : Int)) = true := by simp [he]
                    by_cases hvm : 0 + 1 ≤ m
                    · have hvm' : ¬ (m : Int) < (0 : Int) + 1 := by omega
                      have hMn := HM.out.bad HQ.out q1 (by rw [HCE.out]; exact hgd) (by rw [hv]; exact hvm)
                      have hbt := Stp.badTo_step ce y x
                      rw [hgd, if_neg (by decide)] at hbt
                      rw [hv] at hMn
                      replace hbt := Lib.hid hbt; replace hMn := Lib.hid hMn; replace hgd := Lib.hid hgd
                      have hm1 : nc + 1 ≤ maxLen := by unfold maxLen; omega
                      have hm2 : (nc + 1) * 8 ≤ 140737488355328 := by omega
                      have hvm2 : ¬ (m : Int) < ((0 + 1 : Nat) : Int) := by omega
                      have hvm3 : ¬ m < 0 + 1 := by omega
                      clear he
                      go_wp2_with (at_builtin; refine wpList_append_any _ rfl (.tmp 141) (.tmp 143) 32 rfl w4.heap.size 3 i2 (.int .i64 0) 1 8 Tryd.underlying32 hj.out hx0.out hx1.out hx2.out rfl (by omega) A15 nc c15 _ rfl (HD8.out.alloc (.cells #[.int .i64 (x : Int)] 3)) (w8.heap.size + 1) _ 1 1 _ rfl (reads_one w8 _ _) (one_one rfl) hm1 hm2 (show w4.heap.size ≤ (w8.alloc (.cells #[.int .i64 (x : Int)] 3)).heap.size from Nat.le_trans HB8.out.size (by simp)) ?_; intro A2 c2 w3 ho3 hgq _hsq; have hB3 : Below w4.heap.size w4 w3 := below_app (HB8.out.alloc HB8.out.size (.cells #[.int .i64 (x : Int)] 3)) hgq (HD8.out.alloc (.cells #[.int .i64 (x : Int)] 3)) (show w4.heap.size ≤ (w8.alloc (.cells #[.int .i64 (x : Int)] 3)).heap.size from Nat.le_trans HB8.out.size (by simp)); have hO3 := Lib.hid (own_apart (HO8.out.alloc _) (HD8.out.alloc _) (by decide) hgq); replace ho3 := Lib.hid ho3; replace hB3 := Lib.hid hB3; clear hgq _hsq)
                      go_roundw
                      case rel => exact ⟨x + 1, 0 + 1, nc + 1, c2, A2, rfl, by first | rfl | go_num, by go_num, by omega, by omega, hMn, hB3, hO3, by rw [Hid, hbt.out, List.map_append]; exact ho3.out⟩
                      case measure => simp [intOf]; omega
                    · have hvm' : (m : Int) < (0 : Int) + 1 := by omega
                      have hvm2 : (m : Int) < ((0 + 1 : Nat) : Int) := by omega
                      have hvm3 : m < 0 + 1 := by omega
                      have HBw8 := Lib.hid (HB4.out.trans (HB8.out.mono hsz4))
                      clear hgd he
                      go_wp2_with fail
                      go_ret
                      exact ⟨rfl, HBw8.out⟩
              · have hv : Stp.inAt q x inn = inn := by unfold Stp.inAt; rw [if_neg (by rw [hr]; exact hr0)]
                have hr0' : ((r : Int) == 0) = false := by simp; omega
                have hr0'' : ¬ (r : Int) = 0 := by omega
                replace hr := Lib.hid hr
                replace hx1' := Lib.hid hx1'
                have hvb : inn ≤ m := by have := HM.out.inm; omega
                have wce : IntKind.i64.wrap (ce : Int) = (ce : Int) := by rw [IntKind.wrap_i64]; omega
                have wce2 : IntKind.i64.wrap ((ch : Int) + 4) = (ce : Int) := by rw [IntKind.wrap_i64]; omega
                have wp : IntKind.i64.wrap (p : Int) = (p : Int) := by rw [IntKind.wrap_i64]; omega
                have wp2 : IntKind.i64.wrap (p2 : Int) = (p2 : Int) := by rw [IntKind.wrap_i64]; omega
                have wx1 : IntKind.i64.wrap ((x : Int) + 1) = (x1 : Int) := by rw [hx1c.out, IntKind.wrap_i64]; omega
                have wm1 : IntKind.i64.wrap ((x : Int) * (ce : Int)) = (p : Int) := by rw [hmul1, IntKind.wrap_i64]; omega
                have wm2 : IntKind.i64.wrap ((x1 : Int) * (ce : Int)) = (p2 : Int) := by rw [hmul2, IntKind.wrap_i64]; omega
                go_wp2_with fail
                refine region_E 24 (fun _ => True) (by kernel_rfl) trivial (fun hHeld => ?_)
                refine took 0 (v := ?_) rfl (by kernel_rfl) (by kernel_rfl) (by kernel_rfl) (by kernel_rfl) (fun _ _ _ h => h) (by rfl) (by assumption) ?_ ?_
                rotate_left
                · (intro W hSw; (try dsimp only at hSw); go_simp; first | done | with_reducible rfl)
                try simp only [Act.put, List.setIfInBounds_toArray, List.set_cons_zero, List.set_cons_succ]
                refine took 1 (v := ?_) rfl (by kernel_rfl) (by kernel_rfl) (by kernel_rfl) (by kernel_rfl) (fun _ _ _ h => h) (by rfl) (by assumption) ?_ ?_
                rotate_left
                · (intro W hSw; (try dsimp only at hSw); go_simp; first | done | with_reducible rfl)
                try simp only [Act.put, List.setIfInBounds_toArray, List.set_cons_zero, List.set_cons_succ]
                refine took 2 (v := ?_) rfl (by kernel_rfl) (by kernel_rfl) (by kernel_rfl) (by kernel_rfl) (fun _ _ _ h => h) (by rfl) (by assumption) ?_ ?_
                rotate_left
                · (intro W hSw; (try dsimp only at hSw); go_simp; first | done | with_reducible rfl)
                try simp only [Act.put, List.setIfInBounds_toArray, List.set_cons_zero, List.set_cons_succ]
                refine took 3 (v := ?_) rfl (by kernel_rfl) (by kernel_rfl) (by kernel_rfl) (by kernel_rfl) (fun _ _ _ h => h) (by rfl) (by assumption) ?_ ?_
                rotate_left
                · (intro W hSw; (try dsimp only at hSw); go_simp; first | done | with_reducible rfl)
                try simp only [Act.put, List.setIfInBounds_toArray, List.set_cons_zero, List.set_cons_succ]
                refine took 4 (v := ?_) rfl (by kernel_rfl) (by kernel_rfl) (by kernel_rfl) (by kernel_rfl) (fun _ _ _ h => h) (by rfl) (by assumption) ?_ ?_
                rotate_left
                · (intro W hSw; (try dsimp only at hSw); go_simp; first | done | with_reducible rfl)
                try simp only [Act.put, List.setIfInBounds_toArray, List.set_cons_zero, List.set_cons_succ]
                refine took 5 (v := ?_) rfl (by kernel_rfl) (by kernel_rfl) (by kernel_rfl) (by kernel_rfl) (fun _ _ _ h => h) (by rfl) (by assumption) ?_ ?_
                rotate_left
                · (intro W hSw; (try dsimp only at hSw); go_simp; first | done | with_reducible rfl)
                try simp only [Act.put, List.setIfInBounds_toArray, List.set_cons_zero, List.set_cons_succ]
                refine took 6 (v := ?_) rfl (by kernel_rfl) (by kernel_rfl) (by kernel_rfl) (by kernel_rfl) (fun _ _ _ h => h) (by rfl) (by assumption) ?_ ?_
                rotate_left
                · (intro W hSw; (try dsimp only at hSw); go_simp; first | done | with_reducible rfl)
                try simp only [Act.put, List.setIfInBounds_toArray, List.set_cons_zero, List.set_cons_succ]
                refine took 7 (v := ?_) rfl (by kernel_rfl) (by kernel_rfl) (by kernel_rfl) (by kernel_rfl) (fun _ _ _ h => h) (by rfl) (by assumption) ?_ ?_
                rotate_left
                · (intro W hSw; (try dsimp only at hSw); go_simp; first | done | with_reducible rfl)
                try simp only [Act.put, List.setIfInBounds_toArray, List.set_cons_zero, List.set_cons_succ]
                refine took 8 (v := ?_) rfl (by kernel_rfl) (by kernel_rfl) (by kernel_rfl) (by kernel_rfl) (fun _ _ _ h => h) (by rfl) (by assumption) ?_ ?_
                rotate_left
                · (intro W hSw; (try dsimp only at hSw); go_simp; first | done | with_reducible rfl)
                try simp only [Act.put, List.setIfInBounds_toArray, List.set_cons_zero, List.set_cons_succ]
                refine took 9 (v := ?_) rfl (by kernel_rfl) (by kernel_rfl) (by kernel_rfl) (by kernel_rfl) (fun _ _ _ h => h) (by rfl) (by assumption) ?_ ?_
                rotate_left
                · (intro W hSw; (try dsimp only at hSw); go_simp; first | done | with_reducible rfl)
                try simp only [Act.put, List.setIfInBounds_toArray, List.set_cons_zero, List.set_cons_succ]
                refine took 10 (v := ?_) rfl (by kernel_rfl) (by kernel_rfl) (by kernel_rfl) (by kernel_rfl) (fun _ _ _ h => h) (by rfl) (by assumption) ?_ ?_
                rotate_left
                · (intro W hSw; (try dsimp only at hSw); go_simp; first | done | with_reducible rfl)
                try simp only [Act.put, List.setIfInBounds_toArray, List.set_cons_zero, List.set_cons_succ]
                refine took 11 (v := ?_) rfl (by kernel_rfl) (by kernel_rfl) (by kernel_rfl) (by kernel_rfl) (fun _ _ _ h => h) (by rfl) (by assumption) ?_ ?_
                rotate_left
                · (intro W hSw; (try dsimp only at hSw); go_simp; first | done | with_reducible rfl)
                try simp only [Act.put, List.setIfInBounds_toArray, List.set_cons_zero, List.set_cons_succ]
                refine took 12 (v := ?_) rfl (by kernel_rfl) (by kernel_rfl) (by kernel_rfl) (by kernel_rfl) (fun _ _ _ h => h) (by rfl) (by assumption) ?_ ?_
                rotate_left
                · (intro W hSw; (try dsimp only at hSw); go_simp; first | done | with_reducible rfl)
                try simp only [Act.put, List.setIfInBounds_toArray, List.set_cons_zero, List.set_cons_succ]
                refine took 13 (v := ?_) rfl (by kernel_rfl) (by kernel_rfl) (by kernel_rfl) (by kernel_rfl) (fun _ _ _ h => h) (by rfl) (by assumption) ?_ ?_
                rotate_left
                · (intro W hSw; (try dsimp only at hSw); go_simp; first | done | with_reducible rfl)
                try simp only [Act.put, List.setIfInBounds_toArray, List.set_cons_zero, List.set_cons_succ]
                refine took 14 (v := ?_) rfl (by kernel_rfl) (by kernel_rfl) (by kernel_rfl) (by kernel_rfl) (fun _ _ _ h => h) (by rfl) (by assumption) ?_ ?_
                rotate_left
                · (intro W hSw; (try dsimp only at hSw); go_simp; first | done | with_reducible rfl)
                try simp only [Act.put, List.setIfInBounds_toArray, List.set_cons_zero, List.set_cons_succ]
                refine took 15 (v := ?_) rfl (by kernel_rfl) (by kernel_rfl) (by kernel_rfl) (by kernel_rfl) (fun _ _ _ h => h) (by rfl) (by assumption) ?_ ?_
                rotate_left
                · (intro W hSw; (try dsimp only at hSw); go_simp; first | done | with_reducible rfl)
                try simp only [Act.put, List.setIfInBounds_toArray, List.set_cons_zero, List.set_cons_succ]
                refine took 16 (v := ?_) rfl (by kernel_rfl) (by kernel_rfl) (by kernel_rfl) (by kernel_rfl) (fun _ _ _ h => h) (by rfl) (by assumption) ?_ ?_
                rotate_left
                · (intro W hSw; (try dsimp only at hSw); go_simp; first | done | with_reducible rfl)
                try simp only [Act.put, List.setIfInBounds_toArray, List.set_cons_zero, List.set_cons_succ]
                refine took 17 (v := ?_) rfl (by kernel_rfl) (by kernel_rfl) (by kernel_rfl) (by kernel_rfl) (fun _ _ _ h => h) (by rfl) (by assumption) ?_ ?_
                rotate_left
                · (intro W hSw; (try dsimp only at hSw); go_simp; first | done | with_reducible rfl)
                try simp only [Act.put, List.setIfInBounds_toArray, List.set_cons_zero, List.set_cons_succ]
                refine took 18 (v := ?_) rfl (by kernel_rfl) (by kernel_rfl) (by kernel_rfl) (by kernel_rfl) (fun _ _ _ h => h) (by rfl) (by assumption) ?_ ?_
                rotate_left
                · (intro W hSw; (try dsimp only at hSw); go_simp; first | done | with_reducible rfl)
                try simp only [Act.put, List.setIfInBounds_toArray, List.set_cons_zero, List.set_cons_succ]
                refine took 19 (v := ?_) rfl (by kernel_rfl) (by kernel_rfl) (by kernel_rfl) (by kernel_rfl) (fun _ _ _ h => h) (by rfl) (by assumption) ?_ ?_
                rotate_left
                · (intro W hSw; (try dsimp only at hSw); go_simp; first | done | with_reducible rfl)
                try simp only [Act.put, List.setIfInBounds_toArray, List.set_cons_zero, List.set_cons_succ]
                refine took 20 (v := ?_) rfl (by kernel_rfl) (by kernel_rfl) (by kernel_rfl) (by kernel_rfl) (fun _ _ _ h => h) (by rfl) (by assumption) ?_ ?_
                rotate_left
                · (intro W hSw; (try dsimp only at hSw); go_simp; first | done | with_reducible rfl)
                try simp only [Act.put, List.setIfInBounds_toArray, List.set_cons_zero, List.set_cons_succ]
                refine took 21 (v := ?_) rfl (by kernel_rfl) (by kernel_rfl) (by kernel_rfl) (by kernel_rfl) (fun _ _ _ h => h) (by rfl) (by assumption) ?_ ?_
                rotate_left
                · (intro W hSw; (try dsimp only at hSw); go_simp; first | done | with_reducible rfl)
                try simp only [Act.put, List.setIfInBounds_toArray, List.set_cons_zero, List.set_cons_succ]
                refine took 22 (v := ?_) rfl (by kernel_rfl) (by kernel_rfl) (by kernel_rfl) (by kernel_rfl) (fun _ _ _ h => h) (by rfl) (by assumption) ?_ ?_
                rotate_left
                · (intro W hSw; (try dsimp only at hSw); go_simp; first | done | with_reducible rfl)
                try simp only [Act.put, List.setIfInBounds_toArray, List.set_cons_zero, List.set_cons_succ]
                refine took 23 (v := ?_) rfl (by kernel_rfl) (by kernel_rfl) (by kernel_rfl) (by kernel_rfl) (fun _ _ _ h => h) (by rfl) (by assumption) ?_ ?_
                rotate_left
                · (intro W hSw; (try dsimp only at hSw); go_simp; first | done | with_reducible rfl)
                try simp only [Act.put, List.setIfInBounds_toArray, List.set_cons_zero, List.set_cons_succ]
                refine allDone (by kernel_rfl) ?_ _
                clear hHeld wce wce2 wp wp2 wx1 wm1 wm2 hcutx hcuty hmul1 hmul2
                by_cases hvy : Stp.chunkB V ce x = Stp.chunkB y ce x
                · rw [decide_eq_true hvy] at KS
                  go_wp2_with fail
                  refine KS.out.mono ?_; rintro e w7 ⟨rfl, rfl⟩
                  have hMn := HM.out.good HQ.out q1 (by rw [HCE.out]; exact LG.out x hlt2) (by rw [HCE.out]; exact hvy)
                  have hgy : Stp.goodB (Stp.chunkB y ce x) = true := by rw [← hvy]; exact LG.out x hlt2
                  have hbt := Stp.badTo_step ce y x
                  rw [hgy, if_pos rfl, List.append_nil] at hbt
                  rw [hv] at hMn
                  replace hbt := Lib.hid hbt; replace hMn := Lib.hid hMn
                  clear KC hgy
                  go_wp2_with fail
                  go_roundw
                  case rel => exact ⟨x + 1, inn, nc, c15, A15, rfl, by first | rfl | go_num, by go_num, by omega, by omega, hMn, HBd, HOd, by rw [Hid, hbt.out]; exact HDd.out⟩
                  case measure => simp [intOf]; omega
                · rw [decide_eq_false hvy] at KS
                  go_wp2_with fail
                  refine KS.out.mono ?_; rintro e w7 ⟨rfl, rfl⟩
                  have hgd : Stp.goodB (Stp.chunkB y ce x) = decide (Crcp.cutE (Stp.chunkB y ce x) = 0) := rfl
                  obtain ⟨er, her⟩ : ∃ er, Crcp.cutE (Stp.chunkB y ce x) = er := ⟨_, rfl⟩
                  rw [her] at KC hgd
                  replace her := Lib.hid her
                  generalize Crcp.cutV (Stp.chunkB y ce x) = CV at *
                  go_wp2_with fail
                  refine KC.out.mono ?_; rintro e w8 ⟨A8, c8, rfl, hf8⟩
                  have HB8 := Lib.hid (HBd.out.trans (hf8.2.mono HBd.out.size))
                  have HO8 := Lib.hid (own_belowL HOd.out hf8.2)
                  have HD8 := Lib.hid (own_belowL HDd.out hf8.2)
                  clear hf8 KC
                  by_cases he : er = 0
                  · subst he
                    have HBw8 := Lib.hid (HB4.out.trans (HB8.out.mono hsz4))
                    clear hgd
                    go_wp2_with fail
                    go_ret
                    exact ⟨rfl, HBw8.out⟩
                  · rw [decide_eq_false he] at hgd
                    have e1 : (er == (0 : Int)) = false := by simp [he]
                    have e2 : (er != (0 : Int)) = true := by simp [he]
                    by_cases hvm : inn + 1 ≤ m
                    · have hvm' : ¬ (m : Int) < (inn : Int) + 1 := by omega
                      have hMn := HM.out.bad HQ.out q1 (by rw [HCE.out]; exact hgd) (by rw [hv]; exact hvm)
                      have hbt := Stp.badTo_step ce y x
                      rw [hgd, if_neg (by decide)] at hbt
                      rw [hv] at hMn
                      replace hbt := Lib.hid hbt; replace hMn := Lib.hid hMn; replace hgd := Lib.hid hgd
                      have hm1 : nc + 1 ≤ maxLen := by unfold maxLen; omega
                      have hm2 : (nc + 1) * 8 ≤ 140737488355328 := by omega
                      have hvm2 : ¬ (m : Int) < ((inn + 1 : Nat) : Int) := by omega
                      have hvm3 : ¬ m < inn + 1 := by omega
                      clear he
                      go_wp2_with (at_builtin; refine wpList_append_any _ rfl (.tmp 141) (.tmp 143) 32 rfl w4.heap.size 3 i2 (.int .i64 0) 1 8 Tryd.underlying32 hj.out hx0.out hx1.out hx2.out rfl (by omega) A15 nc c15 _ rfl (HD8.out.alloc (.cells #[.int .i64 (x : Int)] 3)) (w8.heap.size + 1) _ 1 1 _ rfl (reads_one w8 _ _) (one_one rfl) hm1 hm2 (show w4.heap.size ≤ (w8.alloc (.cells #[.int .i64 (x : Int)] 3)).heap.size from Nat.le_trans HB8.out.size (by simp)) ?_; intro A2 c2 w3 ho3 hgq _hsq; have hB3 : Below w4.heap.size w4 w3 := below_app (HB8.out.alloc HB8.out.size (.cells #[.int .i64 (x : Int)] 3)) hgq (HD8.out.alloc (.cells #[.int .i64 (x : Int)] 3)) (show w4.heap.size ≤ (w8.alloc (.cells #[.int .i64 (x : Int)] 3)).heap.size from Nat.le_trans HB8.out.size (by simp)); have hO3 := Lib.hid (own_apart (HO8.out.alloc _) (HD8.out.alloc _) (by decide) hgq); replace ho3 := Lib.hid ho3; replace hB3 := Lib.hid hB3; clear hgq _hsq)
                      go_roundw
                      case rel => exact ⟨x + 1, inn + 1, nc + 1, c2, A2, rfl, by first | rfl | go_num, by go_num, by omega, by omega, hMn, hB3, hO3, by rw [Hid, hbt.out, List.map_append]; exact ho3.out⟩
                      case measure => simp [intOf]; omega
                    · have hvm' : (m : Int) < (inn : Int) + 1 := by omega
                      have hvm2 : (m : Int) < ((inn + 1 : Nat) : Int) := by omega
                      have hvm3 : m < inn + 1 := by omega
                      have HBw8 := Lib.hid (HB4.out.trans (HB8.out.mono hsz4))
                      clear hgd he
                      go_wp2_with fail
                      go_ret
                      exact ⟨rfl, HBw8.out⟩
            · have hge2 : ¬ (x : Int) < (NC : Int) := by omega
              obtain rfl : x = NC := by omega
              have hH := Stp.Mst.hurt (S := S) (inn := inn) (by rw [hNC.out]; exact HM.out) HQ.out
              have hrd := HURT.out y HY.out hH
              have hcap5 := own_cap HOd.out
              have hdl : (Stp.badTo ce y x).length = nc := by have := HDd.out.1; simpa using this
              have KR7 := KR.out wr (HB4.out.trans (HBd.out.mono hsz4)) y A5 c5 hcap5.1 hcap5.2 (Reads.of_own HOd.out)
              rw [hrd.1, hrd.2.1, hrd.2.2] at KR7
              unfold RdRet at KR7
              rw [hn.out, hdl] at KR7
              replace KR7 := Lib.hid KR7
              generalize Stp.badTo ce y x = BD at *
              clear hrd hH
              go_wp2_with fail
              refine KR7.out.mono ?_; rintro e w9 ⟨A9, c9, A10, c10, rfl, hr9, hr10, hB9⟩
              have HB9 := Lib.hid (HBd.out.trans (hB9.mono HBd.out.size))
              have HBw9 := Lib.hid (HB4.out.trans (HB9.out.mono hsz4))
              have KS := Lib.hid (same_any A9 A n n c9 c _ _ bs bs w9 hr9 (HRB.out w9 HBw9.out))
              rw [decide_eq_true rfl] at KS
              have KN := Lib.hid (sameN_any A10 A15 nc c10 c15 _ _ BD w9 hr10 (Reads.of_own (own_belowL HDd.out hB9)) (by omega))
              clear KR7 hr9 hr10 hB9
              go_wp2_with fail
              refine KS.out.mono ?_; rintro e w10 ⟨rfl, rfl⟩
              go_wp2_with fail
              refine KN.out.mono ?_; rintro e w11 ⟨rfl, hD11⟩
              have HB11 := Lib.hid (HBw9.out.trans (hD11.below _))
              clear hD11
              go_wp2_with fail
              go_ret
              exact ⟨rfl, HB11.out⟩
end Go.Proofs.YtjbedcgacnnanaaDoor
