/-
  Read, walked.
-/
import Derived.Test.YtjbedcgacnnanaaDoorStu
namespace Go.Proofs.YtjbedcgacnnanaaDoor
set_option linter.unusedSimpArgs false
set_option linter.unusedVariables false
open Go.RowKit

namespace Stp
variable {k m ch n S d L N T : Nat} {s : List UInt8}
theorem csE_zero (sh : Shp k m ch n S d L N T) (hs : s.length = T) {t : Nat} (ht : t < S) (h : csE k m (csAt k m ch s t) = 0) : Rsp.mendE k m (cutL (csAt k m ch s t)) (goodL (csAt k m ch s t)) = 0 := by
  by_cases hf : (Rsp.gd (goodL (csAt k m ch s t)) (k + m)).length < k
  · rw [csE_few sh hs ht hf] at h; exact absurd h (by decide)
  · exact (csE_more sh hs ht hf).1
theorem outTo_len (sh : Shp k m ch n S d L N T) (hs : s.length = T) : ∀ t, t ≤ S → (∀ x, x < t → csE k m (csAt k m ch s x) = 0) → (outTo k m ch s t).length = t * d
  | 0, _, _ => by simp [outTo]
  | t + 1, ht, h => by
    rw [outTo_step, List.length_append, outTo_len sh hs t (by omega) (fun x hx => h x (by omega)), csV_len sh hs (show t < S by omega) (csE_zero sh hs (by omega) (h t (by omega))), Nat.succ_mul]
theorem badTo_stripe (k m ch : Nat) (s : List UInt8) (t : Nat) : badTo (ch + 4) s ((t + 1) * (k + m)) = badTo (ch + 4) s (t * (k + m)) ++ badL (t * (k + m)) (goodL (csAt k m ch s t)) := by
  rw [Nat.succ_mul, badTo_add]
  congr 2
  unfold goodL csAt partsB
  rw [List.map_map]
  apply List.map_congr_left
  intro i hi
  show _ = goodB (chunkB _ _ _)
  rw [chunk_whole (q := k + m) rfl (List.mem_range.1 hi)]
end Stp
set_option maxRecDepth 100000 in
set_option maxHeartbeats 4000000 in
theorem read_no (k m ch n er : Int) (A : Option Addr) (T c : Nat) (w : World) (he : Stp.sizeE k m ch n = er) (h0 : er ≠ 0) :
    Calls Tryd.prog 15 #[.int .i64 k, .int .i64 m, .int .i64 ch, .int .i64 n, .slice A T c] w (RdRet w [] [] er) := by
  have KSz : Hid (Calls Tryd.prog 10 #[.int .i64 k, .int .i64 m, .int .i64 ch, .int .i64 n] w fun e w' => e = .returned (.tuple #[.int .i64 (Stp.sizeV k m ch n : Nat), .int .i64 er]) ∧ Below w.heap.size w w') := by
    have := size_any k m ch n w
    rw [he] at this
    exact this
  have e1 : (er == (0 : Int)) = false := by simp [h0]
  have e2 : (er != (0 : Int)) = true := by simp [h0]
  generalize Stp.sizeV k m ch n = v at *
  clear he
  go_enter Tryd.func15, Tryd.ntmps15
  go_wp2_with fail
  refine KSz.out.mono ?_; rintro e w1 ⟨rfl, hB1⟩
  replace hB1 := Lib.hid hB1
  go_wp2_with fail
  go_ret3
  exact RdRet.nil hB1.out
set_option maxRecDepth 100000 in
set_option maxHeartbeats 4000000 in
theorem refRead_no (k m ch n er : Int) (A : Option Addr) (T c : Nat) (w : World) (he : Stp.sizeE k m ch n = er) (h0 : er ≠ 0) :
    Calls Tryd.prog 16 #[.int .i64 k, .int .i64 m, .int .i64 ch, .int .i64 n, .slice A T c] w (RdRet w [] [] er) := by
  have KSz : Hid (Calls Tryd.prog 11 #[.int .i64 k, .int .i64 m, .int .i64 ch, .int .i64 n] w fun e w' => e = .returned (.tuple #[.int .i64 (Stp.sizeV k m ch n : Nat), .int .i64 er]) ∧ w = w') := by
    have := refSize_any k m ch n w
    rw [he] at this
    exact this
  have e1 : (er == (0 : Int)) = false := by simp [h0]
  have e2 : (er != (0 : Int)) = true := by simp [h0]
  generalize Stp.sizeV k m ch n = v at *
  clear he
  go_enter Tryd.func16, Tryd.ntmps16
  go_wp2_with fail
  refine KSz.out.mono ?_; rintro e w1 ⟨rfl, rfl⟩
  go_wp2_with fail
  go_ret3
  exact RdRet.nil (Below.refl _ _)
/-- bytes too few, or too many -/
def lenE (T l : Nat) : Int := if l < T then 1 else 2
set_option maxRecDepth 100000 in
set_option maxHeartbeats 4000000 in
theorem read_len (k m ch n : Int) (A : Option Addr) (l c T : Nat) (w : World) (he : Stp.sizeE k m ch n = 0) (hT : Stp.sizeV k m ch n = T) (h0 : l ≠ T) :
    Calls Tryd.prog 15 #[.int .i64 k, .int .i64 m, .int .i64 ch, .int .i64 n, .slice A l c] w (RdRet w [] [] (lenE T l)) := by
  have KSz : Hid (Calls Tryd.prog 10 #[.int .i64 k, .int .i64 m, .int .i64 ch, .int .i64 n] w fun e w' => e = .returned (.tuple #[.int .i64 (T : Nat), .int .i64 0]) ∧ Below w.heap.size w w') := by
    have := size_any k m ch n w
    rw [he, hT] at this
    exact this
  clear he hT
  unfold lenE
  by_cases hl : l < T
  · rw [if_pos hl]
    have h1 : (l : Int) < (T : Int) := by omega
    go_enter Tryd.func15, Tryd.ntmps15
    go_wp2_with fail
    refine KSz.out.mono ?_; rintro e w1 ⟨rfl, hB1⟩
    replace hB1 := Lib.hid hB1
    go_wp2_with fail
    go_ret3
    exact RdRet.nil hB1.out
  · rw [if_neg hl]
    have h1 : ¬ (l : Int) < (T : Int) := by omega
    have h2 : (T : Int) < (l : Int) := by omega
    go_enter Tryd.func15, Tryd.ntmps15
    go_wp2_with fail
    refine KSz.out.mono ?_; rintro e w1 ⟨rfl, hB1⟩
    replace hB1 := Lib.hid hB1
    go_wp2_with fail
    go_ret3
    exact RdRet.nil hB1.out
set_option maxRecDepth 100000 in
set_option maxHeartbeats 4000000 in
theorem refRead_len (k m ch n : Int) (A : Option Addr) (l c T : Nat) (w : World) (he : Stp.sizeE k m ch n = 0) (hT : Stp.sizeV k m ch n = T) (h0 : l ≠ T) :
    Calls Tryd.prog 16 #[.int .i64 k, .int .i64 m, .int .i64 ch, .int .i64 n, .slice A l c] w (RdRet w [] [] (lenE T l)) := by
  have KSz : Hid (Calls Tryd.prog 11 #[.int .i64 k, .int .i64 m, .int .i64 ch, .int .i64 n] w fun e w' => e = .returned (.tuple #[.int .i64 (T : Nat), .int .i64 0]) ∧ w = w') := by
    have := refSize_any k m ch n w
    rw [he, hT] at this
    exact this
  clear he hT
  unfold lenE
  by_cases hl : l < T
  · rw [if_pos hl]
    have h1 : (l : Int) < (T : Int) := by omega
    go_enter Tryd.func16, Tryd.ntmps16
    go_wp2_with fail
    refine KSz.out.mono ?_; rintro e w1 ⟨rfl, rfl⟩
    go_wp2_with fail
    go_ret3
    exact RdRet.nil (Below.refl _ _)
  · rw [if_neg hl]
    have h1 : ¬ (l : Int) < (T : Int) := by omega
    have h2 : (T : Int) < (l : Int) := by omega
    go_enter Tryd.func16, Tryd.ntmps16
    go_wp2_with fail
    refine KSz.out.mono ?_; rintro e w1 ⟨rfl, rfl⟩
    go_wp2_with fail
    go_ret3
    exact RdRet.nil (Below.refl _ _)
set_option maxRecDepth 100000 in
set_option maxHeartbeats 16000000 in
theorem read_in (k m ch n S d L N T : Nat) (A : Option Addr) (c : Nat) (s : List UInt8) (w : World) (sh : Shp k m ch n S d L N T) (ht : Tab w) (hr : Reads w w.heap.size 1 A T (s.map B8)) (hnc : T ≤ c) (hcm : c ≤ maxLen) :
    Calls Tryd.prog 15 #[.int .i64 k, .int .i64 m, .int .i64 ch, .int .i64 n, .slice A T c] w (RdRet w (Stp.rdV k m ch n S s) (Stp.rdB k m ch n S s) (Stp.rdE k m ch n S s)) := by
  have hok : Stp.ok k m ch n = true := Stp.ok_of sh.k1 sh.km sh.c1 sh.c2 sh.n2
  have hsz : Stp.size k m ch n = T := by unfold Stp.size; rw [sh.hT, sh.hS, sh.hL]
  have hse := Stp.sizeE_in hok (by rw [hsz]; exact sh.t2)
  have KSz : Hid (Calls Tryd.prog 10 #[.int .i64 k, .int .i64 m, .int .i64 ch, .int .i64 n] w fun e w' => e = .returned (.tuple #[.int .i64 (T : Nat), .int .i64 0]) ∧ Below w.heap.size w w') := by
    have := size_any k m ch n w
    rw [hse.1, hse.2, hsz] at this
    exact this
  have sl : Hid (s.length = T) := hr.len
  have KL : Hid (∀ W, Calls Tryd.prog 23 #[.agg #[.int .i64 k, .int .i64 m, .int .i64 ch]] W fun e w' => e = .returned (.int .i64 (L : Int)) ∧ Below W.heap.size W w') := fun W => by rw [sh.hL]; exact laid_any k m ch W sh.km sh.c2
  have d1 := sh.d1
  have d2 := sh.d2
  have N2 := sh.N2
  have nN := sh.nN
  have S2 := sh.S2
  have t2 := sh.t2
  have k1 := sh.k1
  have c1' := sh.c1
  have c2' := sh.c2
  obtain ⟨q, hq⟩ : ∃ q, k + m = q := ⟨_, rfl⟩
  have km : q ≤ 255 := by rw [← hq]; exact sh.km
  obtain ⟨ce, hce⟩ : ∃ ce, ch + 4 = ce := ⟨_, rfl⟩
  have hLq : L = q * ce := by rw [sh.hL, hq, hce]
  have hL1 : 1 ≤ L := by rw [hLq, ← hce]; exact Nat.mul_pos (by omega) (by omega)
  have SH := Lib.hid sh
  have HT := Lib.hid ht
  have RB := Lib.hid (fun W (hW : Below w.heap.size w W) => hr.below hW)
  have hTT1 : ¬ (T : Int) < (T : Int) := by omega
  replace hq := Lib.hid hq; replace hce := Lib.hid hce; replace hLq := Lib.hid hLq
  obtain ⟨i0, hi, hz0, hz1, hz2⟩ := info_parts info_u8
  replace hi := Lib.hid hi; replace hz0 := Lib.hid hz0; replace hz1 := Lib.hid hz1; replace hz2 := Lib.hid hz2
  clear sh hok hsz hse ht
  go_enter Tryd.func15, Tryd.ntmps15
  go_wp2_with fail
  refine KSz.out.mono ?_; rintro e w1 ⟨rfl, hB1⟩
  have hb := Blk.new w1 65 #[.int .i64 k, .int .i64 m, .int .i64 ch, .slice none 0 0, .slice none 0 0, .int .i64 0]
  have hB2 := below_then hB1 ((Below.refl w1.heap.size w1).alloc (Nat.le_refl _) (.cells #[.int .i64 k, .int .i64 m, .int .i64 ch, .slice none 0 0, .slice none 0 0, .int .i64 0] 65))
  have hge : w.heap.size ≤ w1.heap.size := hB1.size
  replace hb := Lib.hid hb; replace hB2 := Lib.hid hB2
  clear hB1
  go_wp2_with fail
  have hg : w.heap.size ≤ w1.heap.size := hge
  obtain ⟨W2, hW2⟩ : ∃ W2, w1.alloc (.cells #[.int .i64 k, .int .i64 m, .int .i64 ch, .slice none 0 0, .slice none 0 0, .int .i64 0] 65) = W2 := ⟨_, rfl⟩
  rw [hW2] at hb hB2 ⊢
  replace hW2 := Lib.hid hW2
  generalize w1.heap.size = g at *
  go_loopw [4] (fun v4 wr => ∃ (t R c4 no co nb cb : Nat) (A4 Ao Ab : Option Addr), v4 = .slice A4 R c4 ∧ t ≤ S ∧ R ≤ T ∧ R ≤ c4 ∧ c4 ≤ maxLen ∧ Hid (R + t * L = T) ∧ Hid (no = t * d) ∧ Hid (nb ≤ t * q) ∧ Hid (∀ x, x < t → Stp.csE k m (Stp.csAt k m ch s x) = 0) ∧ Hid (Reads wr w.heap.size 1 A4 R ((s.drop (t * L)).map B8)) ∧ Hid (Below w.heap.size w wr) ∧ Hid (Rdr wr w.heap.size g k m ch Ao no co Ab nb cb (t * q) (Stp.outTo k m ch s t) (Stp.badTo ce s (t * q)))) (fun v4 _ => lenOfS v4)
  case atStart =>
    refine ⟨0, T, c, 0, 0, 0, 0, A, none, none, rfl, Nat.zero_le _, Nat.le_refl _, hnc, hcm, by show T + 0 * L = T; rw [Nat.zero_mul]; rfl, by show 0 = 0 * d; rw [Nat.zero_mul], Nat.zero_le _, fun x hx => by omega, ?_, hB2, ?_⟩
    · rw [Nat.zero_mul, List.drop_zero]; exact RB.out _ hB2.out
    · rw [Nat.zero_mul]
      exact ⟨hb.out, hg, World.ownsRow_nil _ _ _ _, World.ownsRow_nil _ _ _ _⟩
  case round =>
    clear hb hB2
    obtain ⟨t, R, c4, no, co, nb, cb, A4, Ao, Ab, rfl, htS, hRT, hRc, hc4, HRN, HNO, HNB, HE, HRD, HB, HR⟩ := hrel
    by_cases hlt : t < S
    · have hLT := SH.out.LT hlt
      have hdN := SH.out.dN hlt
      have hLR : L ≤ R := by have := HRN.out; omega
      have hR0 : (0 : Int) < (R : Int) := by omega
      have hTQ : t * q + q ≤ 16777216 := by
        have h1 : (t + 1) * q ≤ (t + 1) * L := Nat.mul_le_mul_left _ (by rw [hLq.out]; exact Nat.le_mul_of_pos_right _ (by have := hce.out; omega))
        rw [Nat.succ_mul, Nat.succ_mul] at h1
        omega
      have hCS : Hid (Stp.partsB q ce ((s.drop (t * L)).take L) = Stp.csAt k m ch s t) := by
        rw [Hid]; unfold Stp.csAt; rw [hq.out, hce.out, ← hLq.out]
      have hFIRST := Lib.hid (fun hne => Stp.rdE_first (n := n) HE.out hne hlt)
      have hOUT := Lib.hid (Stp.outTo_step k m ch s t)
      have hBAD := Lib.hid (Stp.badTo_stripe k m ch s t)
      rw [hq.out, hce.out] at hBAD
      have hc := And.intro (HR.out.blk.cell 0) (And.intro (HR.out.blk.cell 1) (HR.out.blk.cell 2))
      have hLc : (L : Int) ≤ (c4 : Int) := by omega
      have hL0 : (0 : Int) ≤ (L : Int) := by omega
      have hszw : w.heap.size ≤ wr.heap.size := HB.out.size
      obtain ⟨q0, q1, q2⟩ := hc
      go_wp2_with fail
      refine (KL.out _).mono ?_; rintro e w2 ⟨rfl, hBl⟩
      have HB2 := Lib.hid (HB.out.trans (hBl.mono hszw))
      have HR2 := Lib.hid (HR.out.below hBl)
      have HD2 := Lib.hid (HRD.out.below (hBl.mono hszw))
      have KST := Lib.hid (stripe_in w.heap.size g k m ch q ce L no co nb cb (t * q) Ao Ab A4 c4 (Stp.outTo k m ch s t) ((s.drop (t * L)).take L) (Stp.badTo ce s (t * q)) w2 (HT.out.below HB2.out HT.out.pos) HT.out.pos HR2.out HB2.out.size (HD2.out.takeN hLR) (by omega) hc4 hq.out hce.out hLq.out k1 km c1' c2' (by omega) HNB.out (by rw [← SH.out.hd, HNO.out]; omega))
      unfold StRet at KST
      rw [hCS.out] at KST
      clear hBl HB HR HRD q0 q1 q2 hLT hdN
      go_wp2_with fail
      refine KST.out.mono ?_; rintro e w3 ⟨rfl, hB3, hrd⟩
      have HB3 := Lib.hid (HB2.out.trans hB3)
      have HD3 := Lib.hid (HD2.out.below hB3)
      replace hrd := Lib.hid hrd
      clear KST hB3 HB2 HD2 HR2
      obtain ⟨er, her⟩ : ∃ er, Stp.csE k m (Stp.csAt k m ch s t) = er := ⟨_, rfl⟩
      rw [her] at hFIRST hrd ⊢
      by_cases he : er = 0
      · subst he
        obtain ⟨Ao', no', co', Ab', nb', cb', hn', hR'⟩ := hrd.out rfl
        replace hR' := Lib.hid hR'
        have hd3 := And.intro (hR'.out.blk.cell 0) (And.intro (hR'.out.blk.cell 1) (hR'.out.blk.cell 2))
        obtain ⟨q0, q1, q2⟩ := hd3
        have hE1 : Hid (∀ x, x < t + 1 → Stp.csE k m (Stp.csAt k m ch s x) = 0) := fun x hx => by
          by_cases h : x < t
          · exact HE.out x h
          · obtain rfl : x = t := by omega
            exact her
        have hno' : Hid (no' = (t + 1) * d) := by
          have h1 := hR'.out.oo.1
          have h2 := Stp.outTo_len SH.out sl.out (t + 1) hlt hE1.out
          rw [← hOUT.out] at h1
          rw [Hid, ← h2]; simpa using h1.symm
        have hcut := run_cut_lo (P := Tryd.prog) 27 5 i0 1 Tryd.underlying27 hi.out hz1.out A4 R c4 L .i64 hLR
        replace her := Lib.hid her
        have hszw3 : w.heap.size ≤ w3.heap.size := HB3.out.size
        have hLR' : (L : Int) ≤ (R : Int) := by omega
        clear hrd hFIRST
        go_wp2_with fail
        refine (KL.out _).mono ?_; rintro e w4 ⟨rfl, hBl⟩
        have HB4 := Lib.hid (HB3.out.trans (hBl.mono hszw3))
        have HD4 := Lib.hid ((HD3.out.below (hBl.mono hszw3)).cutN hLR hRc)
        have HR4 := Lib.hid (hR'.out.below hBl)
        clear hBl HB3 HD3 hR' q0 q1 q2
        go_wp2_with fail
        go_roundw
        case rel =>
          refine ⟨t + 1, R - L, c4 - L, no', co', nb', cb', cutA A4 c4 L 1, Ao', Ab', rfl, by omega, by omega, by omega, by omega, ?_, hno', ?_, hE1, ?_, HB4, ?_⟩
          · show R - L + (t + 1) * L = T
            have := HRN.out
            rw [Nat.succ_mul]; omega
          · show nb' ≤ (t + 1) * q
            rw [Nat.succ_mul]; exact hn'
          · have h5 := HD4.out
            rw [List.drop_drop] at h5
            rw [Nat.succ_mul]; exact h5
          · rw [hOUT.out, hBAD.out, Nat.succ_mul]; exact HR4.out
        case measure => simp [lenOfS]; omega
      · have e1 : (er == (0 : Int)) = false := by simp [he]
        have e2 : (er != (0 : Int)) = true := by simp [he]
        have hF := Lib.hid (hFIRST.out he)
        clear hrd hFIRST her he
        go_wp2_with fail
        go_ret3
        rw [hF.out.1, hF.out.2.1, hF.out.2.2]
        exact RdRet.nil HB3.out
    · obtain rfl : t = S := by omega
      have hR0 : R = 0 := by have := HRN.out; have := SH.out.hT; omega
      subst hR0
      have hR1 : ¬ (0 : Int) < ((0 : Nat) : Int) := by omega
      have hnN : no = N := by rw [HNO.out, SH.out.hN]
      subst hnN
      have hGOOD := Lib.hid (fun h => Stp.rdE_good (n := n) HE.out h)
      have hBEH := Lib.hid (fun h => Stp.rdE_behind (n := n) HE.out h)
      rw [hq.out, hce.out] at hGOOD
      obtain ⟨W3, hW3⟩ : ∃ W3, W3 = wr := ⟨_, rfl⟩
      subst hW3
      obtain ⟨O, hO⟩ : ∃ O, Stp.outTo k m ch s t = O := ⟨_, rfl⟩
      rw [hO] at HR hGOOD hBEH
      obtain ⟨BD, hBD⟩ : ∃ BD, Stp.badTo ce s (t * q) = BD := ⟨_, rfl⟩
      rw [hBD] at HR hGOOD
      have OL : Hid (O.length = no) := by have := HR.out.oo.1; rw [Hid]; simpa using this
      have DL : Hid (BD.length = nb) := by have := HR.out.ob.1; rw [Hid]; simpa using this
      have hcap := own_cap HR.out.oo
      have hcut := run_cut_lo (P := Tryd.prog) 27 5 i0 1 Tryd.underlying27 hi.out hz1.out Ao no co n .i64 nN
      have RO : Hid (Reads W3 W3.heap.size 1 (cutA Ao co n 1) (no - n) ((O.drop n).map B8)) := (Reads.of_own HR.out.oo).cutN nN hcap.1
      have c3 := HR.out.blk.cell 3
      have hn0 : (0 : Int) ≤ (n : Int) := by omega
      have hnN' : (n : Int) ≤ (no : Int) := by omega
      replace hO := Lib.hid hO; replace hBD := Lib.hid hBD
      obtain ⟨nr, hnr⟩ : ∃ nr, no - n = nr := ⟨_, rfl⟩
      rw [hnr] at hcut RO
      have hNR : n + nr = no := by omega
      replace hnr := Lib.hid hnr
      clear HE HRD
      go_wp2_with fail
      go_loopw [76] (fun v76 wr => ∃ (x : Nat), v76 = .int .i64 (x : Nat) ∧ x ≤ nr ∧ Hid (∀ y, y < x → O[n + y]? = some 0) ∧ W3 = wr) (fun v76 _ => nr - (intOf v76).toNat)
      case atStart => exact ⟨0, rfl, Nat.zero_le _, fun y h1 => by omega, rfl⟩
      case round =>
        obtain ⟨x, rfl, hxM, HX, rfl⟩ := hrel
        by_cases hlt3 : x < nr
        · have hlt3' : (x : Int) < (nr : Int) := by omega
          have hx0 : (0 : Int) ≤ (x : Int) := by omega
          obtain ⟨ad, z, hAd, -, hz, hcell⟩ := RO.out.byte hlt3
          rw [List.getElem?_drop] at hz
          by_cases hzz : z = 0
          · have hz8 : ((z.toNat : Int) == 0) = true := by rw [hzz]; rfl
            have hz9 : ((z.toNat : Int) != 0) = false := by rw [hzz]; rfl
            have hz10 : (z.toNat : Int) = 0 := by rw [hzz]; rfl
            have hz11 : z.toNat = 0 := by rw [hzz]; rfl
            replace hzz := Lib.hid hzz
            replace hz := Lib.hid hz
            go_wp2_with fail
            go_roundw
            case rel =>
              refine ⟨x + 1, by go_num, by omega, fun y h1 => ?_, trivial⟩
              by_cases h : y < x
              · exact HX.out y h
              · obtain rfl : y = x := by omega
                rw [hz.out, hzz.out]
            case measure => simp [intOf]; omega
          · have hz10 : ¬ (z.toNat : Int) = 0 := fun h => hzz (UInt8.toNat_inj.1 (by have h0 : (0 : UInt8).toNat = 0 := rfl; omega))
            have hz11 : ¬ z.toNat = 0 := by omega
            have hz8 : ((z.toNat : Int) == 0) = false := by simp [hz11]
            have hz9 : ((z.toNat : Int) != 0) = true := by simp [hz11]
            have hF := Lib.hid (hBEH.out (Stp.behind_yes hz (Nat.le_add_right _ _) hzz))
            clear hz hzz
            go_wp2_with fail
            go_ret3
            rw [hF.out.1, hF.out.2.1, hF.out.2.2]
            exact RdRet.nil HB.out
        · have hge3 : ¬ (x : Int) < (nr : Int) := by omega
          have hF := hGOOD.out (Stp.behind_no fun y h1 h2 => by
            have h3 := HX.out (y - n) (by have := OL.out; omega)
            rwa [show n + (y - n) = y by omega] at h3)
          replace hF := Lib.hid hF
          have hDd : Below W3.heap.size W3 W3.drew := (Below.refl _ _).drew
          have SB : Hid (∀ V, Below W3.heap.size W3 V → V.cell? ⟨g, 3, none⟩ = some (.slice Ao no co) ∧ V.cell? ⟨g, 4, none⟩ = some (.slice Ab nb cb)) := fun V hV => ⟨(HR.out.blk.below hV HR.out.blk.lt).cell 3, (HR.out.blk.below hV HR.out.blk.lt).cell 4⟩
          have hS0 := SB.out _ hDd
          have hl1 : Hid ((O.take n).length = n) := by rw [Hid, List.length_take, OL.out]; omega
          have KC := Lib.hid (clone_any Ao n co W3.drew.heap.size (O.take n) W3.drew (((Reads.of_own HR.out.oo).below hDd).takeN nN) (Nat.le_refl _) (by omega))
          unfold SlRet at KC
          have hnc5 : (n : Int) ≤ (co : Int) := by omega
          replace hDd := Lib.hid hDd
          clear c3 hcut HX
          go_wp2_with fail
          refine region_E 14 (fun V => V.cell? ⟨g, 3, none⟩ = some (.slice Ao no co) ∧ V.cell? ⟨g, 4, none⟩ = some (.slice Ab nb cb)) (by kernel_rfl) hS0 (fun hHeld => ?_)
          refine took 0 (v := ?_) rfl (by kernel_rfl) (by kernel_rfl) (by kernel_rfl) (by kernel_rfl) (fun _ _ _ h => h) (by rfl) (by assumption) ?_ ?_
          rotate_left
          · (intro W hSw; (try dsimp only at hSw); go_simp; first | done | with_reducible rfl)
          try simp only [Act.put, List.setIfInBounds_toArray, List.set_cons_zero, List.set_cons_succ]
          refine took 1 (v := ?_) rfl (by kernel_rfl) (by kernel_rfl) (by kernel_rfl) (by kernel_rfl) (fun _ _ _ h => h) (by rfl) (by assumption) ?_ ?_
          rotate_left
          · (intro W hSw; (try dsimp only at hSw); go_simp; first | done | with_reducible rfl)
          try simp only [Act.put, List.setIfInBounds_toArray, List.set_cons_zero, List.set_cons_succ]
          refine took 2 (v := ?_) rfl (by kernel_rfl) (by kernel_rfl) (by kernel_rfl) (by kernel_rfl) (fun _ _ _ h => h) (by rfl) (by assumption) ?_ ?_
          rotate_left
          · (intro W hSw; (try dsimp only at hSw); go_simp; first | done | with_reducible rfl)
          try simp only [Act.put, List.setIfInBounds_toArray, List.set_cons_zero, List.set_cons_succ]
          refine took 3 (v := ?_) rfl (by kernel_rfl) (by kernel_rfl) (by kernel_rfl) (by kernel_rfl) (fun _ _ _ h => h) (by rfl) (by assumption) ?_ ?_
          rotate_left
          · (intro W hSw; (try dsimp only at hSw); go_simp; first | done | with_reducible rfl)
          try simp only [Act.put, List.setIfInBounds_toArray, List.set_cons_zero, List.set_cons_succ]
          refine took 4 (v := ?_) rfl (by kernel_rfl) (by kernel_rfl) (by kernel_rfl) (by kernel_rfl) (fun _ _ _ h => h) (by rfl) (by assumption) ?_ ?_
          rotate_left
          · (intro W hSw; (try dsimp only at hSw); go_simp; first | done | with_reducible rfl)
          try simp only [Act.put, List.setIfInBounds_toArray, List.set_cons_zero, List.set_cons_succ]
          refine took 5 (v := ?_) rfl (by kernel_rfl) (by kernel_rfl) (by kernel_rfl) (by kernel_rfl) (fun _ _ _ h => h) (by rfl) (by assumption) ?_ ?_
          rotate_left
          · (intro W hSw; (try dsimp only at hSw); go_simp; first | done | with_reducible rfl)
          try simp only [Act.put, List.setIfInBounds_toArray, List.set_cons_zero, List.set_cons_succ]
          refine took 7 (v := ?_) rfl (by kernel_rfl) (by kernel_rfl) (by kernel_rfl) (by kernel_rfl) (fun _ _ _ h => h) (by rfl) (by assumption) ?_ ?_
          rotate_left
          · (intro W hSw; (try dsimp only at hSw); go_simp; first | done | with_reducible rfl)
          try simp only [Act.put, List.setIfInBounds_toArray, List.set_cons_zero, List.set_cons_succ]
          refine took 8 (v := ?_) rfl (by kernel_rfl) (by kernel_rfl) (by kernel_rfl) (by kernel_rfl) (fun _ _ _ h => h) (by rfl) (by assumption) ?_ ?_
          rotate_left
          · (intro W hSw; (try dsimp only at hSw); go_simp; first | done | with_reducible rfl)
          try simp only [Act.put, List.setIfInBounds_toArray, List.set_cons_zero, List.set_cons_succ]
          refine took 9 (v := ?_) rfl (by kernel_rfl) (by kernel_rfl) (by kernel_rfl) (by kernel_rfl) (fun _ _ _ h => h) (by rfl) (by assumption) ?_ ?_
          rotate_left
          · (intro W hSw; (try dsimp only at hSw); go_simp; first | done | with_reducible rfl)
          try simp only [Act.put, List.setIfInBounds_toArray, List.set_cons_zero, List.set_cons_succ]
          refine took 10 (v := ?_) rfl (by kernel_rfl) (by kernel_rfl) (by kernel_rfl) (by kernel_rfl) (fun _ _ _ h => h) (by rfl) (by assumption) ?_ ?_
          rotate_left
          · (intro W hSw; (try dsimp only at hSw); go_simp; first | done | with_reducible rfl)
          try simp only [Act.put, List.setIfInBounds_toArray, List.set_cons_zero, List.set_cons_succ]
          refine carried 6 rfl (by kernel_rfl) (by rfl) (fun K hK => ?_)
          go_simp
          (go_at_call 32; ((with_reducible refine KC.out.mono ?_); rintro e w8 ⟨Ac, cc, rfl, hf8⟩); have HB8 := Lib.hid (below_then hDd.out hf8.2); have HC8 := Lib.hid hf8.reads; clear hf8)
          refine hK.out _ _ ((SB.out _ HB8.out)) (fun hHeld => ?_)
          clear hK K
          try simp only [Act.put, List.setIfInBounds_toArray, List.set_cons_zero, List.set_cons_succ]
          refine took 11 (v := ?_) rfl (by kernel_rfl) (by kernel_rfl) (by kernel_rfl) (by kernel_rfl) (fun _ _ _ h => h) (by rfl) (by assumption) ?_ ?_
          rotate_left
          · (intro W hSw; (try dsimp only at hSw); go_simp; first | done | with_reducible rfl)
          try simp only [Act.put, List.setIfInBounds_toArray, List.set_cons_zero, List.set_cons_succ]
          refine took 12 (v := ?_) rfl (by kernel_rfl) (by kernel_rfl) (by kernel_rfl) (by kernel_rfl) (fun _ _ _ h => h) (by rfl) (by assumption) ?_ ?_
          rotate_left
          · (intro W hSw; (try dsimp only at hSw); go_simp; first | done | with_reducible rfl)
          try simp only [Act.put, List.setIfInBounds_toArray, List.set_cons_zero, List.set_cons_succ]
          refine took 13 (v := ?_) rfl (by kernel_rfl) (by kernel_rfl) (by kernel_rfl) (by kernel_rfl) (fun _ _ _ h => h) (by rfl) (by assumption) ?_ ?_
          rotate_left
          · (intro W hSw; (try dsimp only at hSw); go_simp; first | done | with_reducible rfl)
          try simp only [Act.put, List.setIfInBounds_toArray, List.set_cons_zero, List.set_cons_succ]
          refine allDone (by kernel_rfl) ?_ _
          have HO8 := Lib.hid (Reads.of_own (own_belowL HR.out.ob HB8.out))
          have HBw8 := Lib.hid (HB.out.trans (HB8.out.mono HB.out.size))
          clear hHeld SB hS0 KC
          go_wp2_with fail
          go_ret3
          rw [hF.out.1, hF.out.2.1, hF.out.2.2]
          refine ⟨Ac, cc, Ab, cb, by rw [hl1.out, DL.out]; rfl, ?_, ?_, HBw8.out⟩
          · rw [hl1.out]; exact HC8.out
          · rw [DL.out]; exact HO8.out
end Go.Proofs.YtjbedcgacnnanaaDoor
