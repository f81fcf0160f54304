/-
  The document's Read, walked.
-/
import Derived.Test.YtjbedcgacnnanaaDoorStl
import Derived.Test.YtjbedcgacnnanaaDoorRsn
import Derived.Test.YtjbedcgacnnanaaDoorBa
namespace Go.Proofs.YtjbedcgacnnanaaDoor
set_option linter.unusedSimpArgs false
set_option linter.unusedVariables false
open Go.RowKit

/-- what was read: bytes, numbers, an error -/
def RdRet (w : World) (v : List UInt8) (bd : List Nat) (er : Int) (e : Ending) (w' : World) : Prop :=
  ∃ A c A' c', e = .returned (.tuple #[.slice A v.length c, .slice A' bd.length c', .int .i64 er]) ∧ Reads w' w'.heap.size 1 A v.length (v.map B8) ∧ Reads w' w'.heap.size 1 A' bd.length (bd.map NV) ∧ Below w.heap.size w w'
theorem RdRet.nil {w w' : World} {er : Int} (hB : Below w.heap.size w w') : RdRet w [] [] er (.returned (.tuple #[.slice none 0 0, .slice none 0 0, .int .i64 er])) w' := ⟨none, 0, none, 0, rfl, Reads.none_, Reads.none_, hB⟩
theorem info_i64o : (Tryd.prog.info? 3).map (fun i => (i.zero, i.size, i.bytes)) = some (some (.int .i64 0), 1, 8) := by kernel_rfl
theorem info_boolo : (Tryd.prog.info? 4).map (fun i => (i.zero, i.size, i.bytes)) = some (some (.bool false), 1, 1) := by kernel_rfl
theorem bytes_beq (a b : List UInt8) : ((⟨a.toArray⟩ : ByteArray) == ⟨b.toArray⟩) = decide (a = b) := by
  show (a.toArray == b.toArray) = _
  rw [Bool.eq_iff_iff, beq_iff_eq, decide_eq_true_iff]
  exact ⟨fun h => by simpa using congrArg Array.toList h, fun h => by rw [h]⟩
theorem bytes_beqL {sa sb : ByteArray} {a b : List UInt8} (ha : (⟨a.toArray⟩ : ByteArray) = sa) (hb : (⟨b.toArray⟩ : ByteArray) = sb) : (sa.toList == sb.toList) = decide (a = b) := by
  rw [← ha, ← hb, ByteArray.toList_eq, ByteArray.toList_eq, Bool.eq_iff_iff, beq_iff_eq, decide_eq_true_iff]
theorem take_snoc {α : Type} {l : List α} {i : Nat} {x : α} (h : l[i]? = some x) : l.take (i + 1) = l.take i ++ [x] := by rw [List.take_add_one, h]; rfl
namespace Stp
section
variable {k m ch n S d L N T : Nat} {s : List UInt8}
theorem cs_len (sh : Shp k m ch n S d L N T) (hs : s.length = T) {t : Nat} (ht : t < S) : (csAt k m ch s t).length = k + m ∧ ∀ c ∈ csAt k m ch s t, c.length = ch + 4 := by
  refine ⟨partsB_len .., ?_⟩
  unfold csAt
  refine partsB_all ?_
  have h1 := Nat.mul_le_mul_right L (show t + 1 ≤ S from ht)
  have h2 := sh.hT
  rw [Nat.succ_mul] at h1
  rw [← sh.hL, List.length_take, List.length_drop, hs]; omega
theorem cs_get {t i : Nat} (hi : i < k + m) : (csAt k m ch s t)[i]? = some (chunkB s (ch + 4) (t * (k + m) + i)) := by
  unfold csAt
  rw [partsB_get hi, chunk_whole (q := k + m) rfl hi]
/-- the error of a stripe: too few good chunks, or one that clashes -/
theorem csE_few (sh : Shp k m ch n S d L N T) (hs : s.length = T) {t : Nat} (ht : t < S) (hf : (Rsp.gd (goodL (csAt k m ch s t)) (k + m)).length < k) : csE k m (csAt k m ch s t) = 12 := by
  have hc := cs_len sh hs ht
  unfold csE
  rw [cs_mendE sh.k1 rfl sh.km hc.1 hc.2, if_pos hf]; rfl
theorem csE_more (sh : Shp k m ch n S d L N T) (hs : s.length = T) {t : Nat} (ht : t < S) (hf : ¬ (Rsp.gd (goodL (csAt k m ch s t)) (k + m)).length < k) : Rsp.mendE k m (cutL (csAt k m ch s t)) (goodL (csAt k m ch s t)) = 0 ∧ csE k m (csAt k m ch s t) = if clash (k + m) (goodL (csAt k m ch s t)) (cutL (csAt k m ch s t)) (Rsp.mendV k m (cutL (csAt k m ch s t)) (goodL (csAt k m ch s t))) = true then 2 else 0 := by
  have hc := cs_len sh hs ht
  have h0 : Rsp.mendE k m (cutL (csAt k m ch s t)) (goodL (csAt k m ch s t)) = 0 := by rw [cs_mendE sh.k1 rfl sh.km hc.1 hc.2, if_neg hf]
  refine ⟨h0, ?_⟩
  unfold csE
  rw [if_pos h0]
theorem csV_len (sh : Shp k m ch n S d L N T) (hs : s.length = T) {t : Nat} (ht : t < S) (h0 : Rsp.mendE k m (cutL (csAt k m ch s t)) (goodL (csAt k m ch s t)) = 0) : (csV k m (csAt k m ch s t)).length = d := by
  have hc := cs_len sh hs ht
  have hv := cs_mendV sh.k1 rfl sh.km hc.1 hc.2 h0
  unfold csV
  rw [flat_len (L := ch) _ (fun x hx => hv.2 x (List.mem_of_mem_take hx)), List.length_take, hv.1, Nat.min_eq_left (by omega), sh.hd]
theorem rdE_first {t : Nat} (h : ∀ i, i < t → csE k m (csAt k m ch s i) = 0) (hne : csE k m (csAt k m ch s t) ≠ 0) (ht : t < S) : rdE k m ch n S s = csE k m (csAt k m ch s t) ∧ rdV k m ch n S s = [] ∧ rdB k m ch n S s = [] := by
  have hf : firstE (fun t => csE k m (csAt k m ch s t)) S = csE k m (csAt k m ch s t) := firstE_at (e := fun t => csE k m (csAt k m ch s t)) h hne ht
  have he : rdE k m ch n S s = csE k m (csAt k m ch s t) := by
    unfold rdE
    rw [hf, if_neg hne]
  exact ⟨he, by unfold rdV; rw [he, if_neg hne], by unfold rdB; rw [he, if_neg hne]⟩
theorem rdE_behind (h : ∀ i, i < S → csE k m (csAt k m ch s i) = 0) (hb : behind n (outTo k m ch s S) = true) : rdE k m ch n S s = 2 ∧ rdV k m ch n S s = [] ∧ rdB k m ch n S s = [] := by
  have he : rdE k m ch n S s = 2 := by
    unfold rdE
    rw [if_pos (firstE_all h), if_pos hb]
  exact ⟨he, by unfold rdV; rw [he, if_neg (by decide)], by unfold rdB; rw [he, if_neg (by decide)]⟩
theorem rdE_good (h : ∀ i, i < S → csE k m (csAt k m ch s i) = 0) (hb : behind n (outTo k m ch s S) = false) : rdE k m ch n S s = 0 ∧ rdV k m ch n S s = (outTo k m ch s S).take n ∧ rdB k m ch n S s = badTo (ch + 4) s (S * (k + m)) := by
  have he : rdE k m ch n S s = 0 := by
    unfold rdE
    rw [if_pos (firstE_all h), if_neg (by rw [hb]; decide)]
  exact ⟨he, by unfold rdV; rw [if_pos he], by unfold rdB; rw [if_pos he]⟩
end
end Stp
theorem Dr.own {a w : World} (h : Dr a w) {base size n c : Nat} {A : Option Addr} {E : TypeId} {xs : List Value} (ho : a.ownsRow base E size (.slice A n c) n xs) : w.ownsRow base E size (.slice A n c) n xs := own_belowL ho (h.below _)
theorem Dr.lists {a w : World} (h : Dr a w) {b0 base n c : Nat} {A : Option Addr} {xss : List (List UInt8)} (ho : Lists a b0 base A n c xss) : Lists w b0 base A n c xss := ho.below (h.below _)
set_option maxRecDepth 100000 in
set_option maxHeartbeats 16000000 in
theorem refRead_in (k m ch n S d L N T : Nat) (A : Option Addr) (c : Nat) (s : List UInt8) (w : World) (sh : Shp k m ch n S d L N T) (hp : 0 < w.heap.size) (hr : Reads w w.heap.size 1 A T (s.map B8)) (hnc : T ≤ c) (hcm : c ≤ maxLen) :
    Calls Tryd.prog 16 #[.int .i64 k, .int .i64 m, .int .i64 ch, .int .i64 n, .slice A T c] w (RdRet w (Stp.rdV k m ch n S s) (Stp.rdB k m ch n S s) (Stp.rdE k m ch n S s)) := by
  have hok : Stp.ok k m ch n = true := Stp.ok_of sh.k1 sh.km sh.c1 sh.c2 sh.n2
  have hsz : Stp.size k m ch n = T := by unfold Stp.size; rw [sh.hT, sh.hS, sh.hL]
  have hse := Stp.sizeE_in hok (by rw [hsz]; exact sh.t2)
  have KSz : Hid (Calls Tryd.prog 11 #[.int .i64 k, .int .i64 m, .int .i64 ch, .int .i64 n] w fun e w' => e = .returned (.tuple #[.int .i64 (T : Nat), .int .i64 0]) ∧ w = w') := by
    have := refSize_any k m ch n w
    rw [hse.1, hse.2, hsz] at this
    exact this
  have sl : Hid (s.length = T) := hr.len
  have d1 := sh.d1
  have d2 := sh.d2
  have N2 := sh.N2
  have nN := sh.nN
  have S2 := sh.S2
  have t2 := sh.t2
  have k1 := sh.k1
  have c1' := sh.c1
  have c2' := sh.c2
  obtain ⟨q, hq⟩ : ∃ q, k + m = q := ⟨_, rfl⟩
  have km : q ≤ 255 := by rw [← hq]; exact sh.km
  obtain ⟨ce, hce⟩ : ∃ ce, ch + 4 = ce := ⟨_, rfl⟩
  have ce1 : ce ≤ 4100 := by omega
  have hLq : L = q * ce := by rw [sh.hL, hq, hce]
  have L2 : L ≤ 1045500 := by have := Stp.laid_le sh.km sh.c2; rw [← sh.hL] at this; exact this
  have hm0 : (q : Int) * (ce : Int) = (L : Int) := by rw [hLq, Int.natCast_mul]
  have hkq : (k : Int) + (m : Int) = (q : Int) := by omega
  have hce' : (ch : Int) + 4 = (ce : Int) := by omega
  have SH := Lib.hid sh
  have RB := Lib.hid (fun W (hW : Below w.heap.size w W) => hr.below hW)
  have CS := Lib.hid (fun t (ht : t < S) => Stp.cs_len sh sl.out ht)
  have CG := Lib.hid (fun t i (hi : i < k + m) => Stp.cs_get (ch := ch) (s := s) (t := t) hi)
  obtain ⟨i0, hi, hz0, hz1, hz2⟩ := info_parts info_u8
  replace hi := Lib.hid hi; replace hz0 := Lib.hid hz0; replace hz1 := Lib.hid hz1; replace hz2 := Lib.hid hz2
  obtain ⟨i1, hi_, hy0, hy1, hy2⟩ := info_parts info_row8
  replace hi_ := Lib.hid hi_; replace hy0 := Lib.hid hy0; replace hy1 := Lib.hid hy1; replace hy2 := Lib.hid hy2
  obtain ⟨i2, hj, hx0, hx1, hx2⟩ := info_parts info_i64o
  replace hj := Lib.hid hj; replace hx0 := Lib.hid hx0; replace hx1 := Lib.hid hx1; replace hx2 := Lib.hid hx2
  obtain ⟨i3, hk, hw0, hw1, hw2⟩ := info_parts info_boolo
  replace hk := Lib.hid hk; replace hw0 := Lib.hid hw0; replace hw1 := Lib.hid hw1; replace hw2 := Lib.hid hw2
  have hTT1 : ¬ (T : Int) < (T : Int) := by omega
  replace hq := Lib.hid hq; replace hce := Lib.hid hce; replace hLq := Lib.hid hLq
  clear sh hr hok hsz hse
  go_enter Tryd.func16, Tryd.ntmps16
  go_wp2_with fail
  refine KSz.out.mono ?_; rintro e w' ⟨rfl, rfl⟩
  go_wp2_with fail
  go_loopw [15, 16, 17] (fun v15 v16 v17 wr => ∃ (t i M nb c15 c16 : Nat) (A15 A16 : Option Addr), v15 = .slice A15 M c15 ∧ v16 = .slice A16 nb c16 ∧ v17 = .int .i64 (i : Nat) ∧ t ≤ S ∧ i ≤ 16777216 ∧ M ≤ 16777216 ∧ nb ≤ 16777216 ∧ Hid (i = t * L) ∧ Hid (M = t * d) ∧ Hid (nb ≤ t * q) ∧ Hid (∀ x, x < t → Stp.csE k m (Stp.csAt k m ch s x) = 0) ∧ Hid (Below w.heap.size w wr) ∧ Hid (wr.ownsRow w.heap.size 5 1 (.slice A15 M c15) M ((Stp.outTo k m ch s t).map B8)) ∧ Hid (wr.ownsRow w.heap.size 3 1 (.slice A16 nb c16) nb ((Stp.badTo ce s (t * q)).map NV))) (fun _ _ v17 _ => T + 1 - (intOf v17).toNat)
  case atStart => exact ⟨0, 0, 0, 0, 0, 0, none, none, rfl, rfl, rfl, Nat.zero_le _, by omega, by omega, by omega, by show 0 = 0 * L; rw [Nat.zero_mul], by show 0 = 0 * d; rw [Nat.zero_mul], Nat.zero_le _, fun x hx => by omega, Below.refl _ _, by simpa [Hid, Stp.outTo] using World.ownsRow_nil w w.heap.size 5 1, by simpa [Hid, Stp.badTo] using World.ownsRow_nil w w.heap.size 3 1⟩
  case round =>
    obtain ⟨t, i, M, nb, c15, c16, A15, A16, rfl, rfl, rfl, htS, hiT, hM, hnb, HI, HM, HNB, HE, HB, HO, HD⟩ := hrel
    by_cases hlt : t < S
    · have hLT := SH.out.LT hlt
      have hdN := SH.out.dN hlt
      have hiLT : i + L ≤ T := by have := HI.out; omega
      have hL1 : 1 ≤ L := by rw [SH.out.hL]; exact Nat.mul_pos (by omega) (by omega)
      have hin : (i : Int) < (T : Int) := by omega
      have HMd : M + d ≤ N := by have := HM.out; omega
      have hcsl := Lib.hid (CS.out t hlt)
      have hcsg := Lib.hid (CG.out t)
      have hFEW := Lib.hid (fun hf => Stp.csE_few SH.out sl.out hlt hf)
      have hMORE := Lib.hid (fun hf => Stp.csE_more SH.out sl.out hlt hf)
      have hVL := Lib.hid (fun hf => Stp.csV_len SH.out sl.out hlt hf)
      have hFIRST := Lib.hid (fun hne => Stp.rdE_first (n := n) HE.out hne hlt)
      have hOUT := Lib.hid (Stp.outTo_step k m ch s t)
      rw [hq.out, hce.out] at hcsg hcsl
      rw [hq.out] at hFEW hMORE
      generalize hcs : Stp.csAt k m ch s t = cs at *
      replace hcs := Lib.hid hcs
      have hTQ : t * q + q ≤ 16777216 := by
        have h1 : (t + 1) * q ≤ (t + 1) * L := Nat.mul_le_mul_left _ (by rw [hLq.out]; exact Nat.le_mul_of_pos_right _ (by have := hce.out; omega))
        have h2 := HI.out
        rw [Nat.succ_mul, Nat.succ_mul, ← h2] at h1
        omega
      have hnbq : nb + q ≤ 16777216 := by have := HNB.out; omega
      clear hdN hLT CS CG
      go_wp2_with fail
      go_loopw [16, 18, 19, 20, 21] (fun v16 v18 v19 v20 v21 wr => ∃ (j nbj b c16 c18 c19 : Nat) (A16 A18 A19 : Option Addr), v16 = .slice A16 nbj c16 ∧ v18 = .slice A18 j c18 ∧ v19 = .slice A19 j c19 ∧ v20 = .int .i64 (b : Nat) ∧ v21 = .int .i64 (j : Nat) ∧ j ≤ q ∧ b ≤ j ∧ nbj ≤ nb + j ∧ Hid (b + (Rsp.gd (Stp.goodL cs) j).length = j) ∧ Hid (nbj ≤ t * q + j) ∧ Hid (Below w.heap.size w wr) ∧ Hid (wr.ownsRow w.heap.size 5 1 (.slice A15 M c15) M ((Stp.outTo k m ch s t).map B8)) ∧ Hid (wr.ownsRow w.heap.size 3 1 (.slice A16 nbj c16) nbj ((Stp.badTo ce s (t * q + j)).map NV)) ∧ Hid (Lists wr 0 w.heap.size A18 j c18 ((Stp.cutL cs).take j)) ∧ Hid (wr.ownsRow w.heap.size 4 1 (.slice A19 j c19) j (((Stp.goodL cs).take j).map Value.bool))) (fun _ _ _ _ v21 _ => q - (intOf v21).toNat)
      case atStart => exact ⟨0, nb, 0, c16, 0, 0, A16, none, none, rfl, rfl, rfl, rfl, rfl, Nat.zero_le _, by omega, by omega, rfl, HNB.out, HB, HO, HD, Lists.nil _ _ _ (Nat.zero_le _) HB.out.size, by simpa [Hid] using World.ownsRow_nil _ w.heap.size 4 1⟩
      case round =>
        clear HB HO HD
        obtain ⟨j, nbj, b, c16, c18, c19, A16, A18, A19, rfl, rfl, rfl, rfl, rfl, hjq, hbj, hnbj, HG, HNJ, HB, HO, HD, HL, HF⟩ := hrel
        by_cases hlt2 : j < q
        · have hlt2' : (j : Int) < (k : Int) + (m : Int) := by omega
          obtain ⟨jc, hjc⟩ : ∃ jc, j * ce = jc := ⟨_, rfl⟩
          have hj2 : (j + 1) * ce = jc + ce := by rw [Nat.succ_mul, hjc]
          have hjd : jc + ce ≤ L := by
            have := Nat.mul_le_mul_right ce (show j + 1 ≤ q from hlt2)
            rw [hj2, ← hLq.out] at this; exact this
          have hm1 : (j : Int) * (ce : Int) = (jc : Int) := by rw [← hjc, Int.natCast_mul]
          obtain ⟨f, hf⟩ : ∃ f, i + jc = f := ⟨_, rfl⟩
          have hf1 : (i : Int) + (jc : Int) = (f : Int) := by omega
          obtain ⟨g, hg⟩ : ∃ g, f + ce = g := ⟨_, rfl⟩
          have hg1 : (f : Int) + (ch : Int) + 4 = (g : Int) := by omega
          have hgT : g ≤ T := by omega
          have hfb : f ≤ 16777216 := by omega
          have hfe : f = (t * q + j) * ce := by rw [← hf, ← hjc, HI.out, hLq.out, Nat.add_mul, Nat.mul_assoc]
          have hquo : f / ce = t * q + j := by rw [hfe]; exact Nat.mul_div_cancel _ (by have := hce.out; omega)
          have hck : Hid ((s.drop f).take ce = Stp.chunkB s ce (t * q + j)) := by rw [Hid, hfe]; rfl
          have hget := hcsg.out j hlt2
          have hcl : Hid ((Stp.chunkB s ce (t * q + j)).length = ce) := hcsl.out.2 _ (List.mem_of_getElem? hget)
          have hcut := run_cut_lh (P := Tryd.prog) 27 5 i0 1 Tryd.underlying27 hi.out hz1.out A T c f g .i64 .i64 (by omega) (by omega)
          rw [show g - f = ce by omega] at hcut
          have hRC : Hid (Reads wr wr.heap.size 1 (cutA A c f 1) ce ((Stp.chunkB s ce (t * q + j)).map B8)) := by
            have h1 := ((RB.out wr HB.out).more HB.out.size).cutN (show f ≤ T by omega) hnc
            have h2 := h1.takeN (show ce ≤ T - f by omega)
            rw [hck.out] at h2
            exact h2
          have KC := Lib.hid (refCut_any (cutA A c f 1) ce (c - f) (Stp.chunkB s ce (t * q + j)) wr hRC.out (by omega) (by omega))
          unfold SlErr at KC
          have TK1 : Hid ((Stp.cutL cs).take (j + 1) = (Stp.cutL cs).take j ++ [Crcp.cutV (Stp.chunkB s ce (t * q + j))]) := take_snoc (Stp.cutL_get hget)
          have TK2 : Hid ((Stp.goodL cs).take (j + 1) = (Stp.goodL cs).take j ++ [Stp.goodB (Stp.chunkB s ce (t * q + j))]) := take_snoc (Stp.goodL_get hget)
          have TK3 := Lib.hid (Stp.badTo_step ce s (t * q + j))
          have TK4 : Hid ((Rsp.gd (Stp.goodL cs) (j + 1)).length = (Rsp.gd (Stp.goodL cs) j).length + (if Stp.goodB (Stp.chunkB s ce (t * q + j)) = true then 1 else 0)) := by
            have := Stp.gd_succ (Stp.goodL cs) j
            rw [List.getD_eq_getElem?_getD, Stp.goodL_get hget] at this
            exact this
          have hgd : Stp.goodB (Stp.chunkB s ce (t * q + j)) = decide (Crcp.cutE (Stp.chunkB s ce (t * q + j)) = 0) := rfl
          have hVle : (Crcp.cutV (Stp.chunkB s ce (t * q + j))).length ≤ ch := Stp.cutV_le (by rw [hcl.out]; exact hce.out.symm)
          obtain ⟨B, hBe⟩ : ∃ B, Stp.chunkB s ce (t * q + j) = B := ⟨_, rfl⟩
          rw [hBe] at hgd hVle KC TK1 TK2 TK3 TK4
          have hc1 : j + 1 ≤ maxLen := by unfold maxLen; omega
          have hc2 : (j + 1) * 24 ≤ 140737488355328 := by omega
          have hk1 : j + 1 ≤ maxLen := by unfold maxLen; omega
          have hk2 : (j + 1) * 1 ≤ 140737488355328 := by omega
          have hm1' : nbj + 1 ≤ maxLen := by unfold maxLen; omega
          have hm2' : (nbj + 1) * 8 ≤ 140737488355328 := by omega
          have hcf : (f : Int) ≤ (g : Int) := by omega
          have hcg : (g : Int) ≤ (c : Int) := by omega
          replace hBe := Lib.hid hBe; replace hfe := Lib.hid hfe; replace hf := Lib.hid hf; replace hg := Lib.hid hg; replace hjc := Lib.hid hjc; replace hj2 := Lib.hid hj2
          have hquo' : ((f : Int)).tdiv (ce : Int) = ((t * q + j : Nat) : Int) := by
            rw [Int.tdiv_eq_ediv_of_nonneg (by omega), ← hquo]; exact (Int.natCast_ediv _ _).symm
          have hce0 : ((ce : Int) == 0) = false := by simp; have := hce.out; omega
          have hce1 : ¬ (ce : Int) = 0 := by have := hce.out; omega
          obtain ⟨x, hx⟩ : ∃ x, t * q + j = x := ⟨_, rfl⟩
          rw [hx] at hquo' TK3
          have hxb : x ≤ 16777216 := by omega
          have HXJ : Hid (t * q + (j + 1) = x + 1) := by rw [Hid, ← hx]; omega
          rw [hx] at HD HNJ
          replace hx := Lib.hid hx; replace hquo := Lib.hid hquo
          clear hRC hget hcl hck
          obtain ⟨lv, hlv⟩ : ∃ lv, (Crcp.cutV B).length = lv := ⟨_, rfl⟩
          rw [hlv] at KC hVle
          replace hlv := Lib.hid hlv
          cases hgb : Stp.goodB B with
          | true =>
            have he : Crcp.cutE B = 0 := of_decide_eq_true (hgd ▸ hgb)
            rw [he] at KC
            rw [hgb] at TK2 TK3 TK4
            rw [if_pos rfl, List.append_nil] at TK3
            rw [if_pos rfl] at TK4
            clear hgd hgb he
            generalize Crcp.cutV B = V at *
            go_wp2_with fail
            refine KC.out.mono ?_; rintro e wc ⟨Ap, cp, rfl, hfc⟩
            have HBc := Lib.hid (below_then HB.out hfc.2)
            have HOc := Lib.hid (own_belowL HO.out hfc.2)
            have HDc := Lib.hid (own_belowL HD.out hfc.2)
            have HFc := Lib.hid (own_belowL HF.out hfc.2)
            have HLc := Lib.hid (HL.out.below hfc.2)
            have HRc := Lib.hid (RowOK.own (b0 := 0) (own_base (base' := w.heap.size) hfc.1 HB.out.size))
            have hln : Hid (V.length = lv) := hlv
            clear hfc KC HB HO HD HF HL
            have hLa := HLc.out.below ((Below.refl _ wc).alloc (Nat.le_refl _) (.cells #[.slice Ap lv cp] 27))
            have hRa := RowOK.below (HRc.out.2) HLc.out.b0s HLc.out.bs ((Below.refl _ wc).alloc (Nat.le_refl _) (.cells #[.slice Ap lv cp] 27))
            obtain ⟨⟨vs, hv1, hv2, hv3⟩, hvb, hv0⟩ := hLa
            replace hv1 := Lib.hid hv1; replace hv2 := Lib.hid hv2; replace hv3 := Lib.hid hv3; replace hvb := Lib.hid hvb; replace hv0 := Lib.hid hv0; replace hRa := Lib.hid hRa
            clear HLc HRc
            go_wp2_with (first | (at_builtin; refine wpList_append_any _ rfl (.tmp 85) (.tmp 87) 55 rfl w.heap.size 27 i1 (.slice none 0 0) 1 24 Tryd.underlying55 hi_.out hy0.out hy1.out hy2.out rfl (by omega) A18 j c18 _ rfl hv1.out (wc.heap.size + 1) _ 1 1 _ rfl (reads_one wc _ _) (one_one rfl) hc1 hc2 hvb.out ?_; intro A3 c3 w4 ho4 hgq _hsq; have hB4 : Below w.heap.size w w4 := below_app (HBc.out.alloc HBc.out.size (.cells #[.slice Ap lv cp] 27)) hgq hv1.out hvb.out; have hP4 := Lists.pushN hln.out hRa.out hv1.out hv2.out hv3.out hv0.out hvb.out ho4 hgq; have hO4 := Lib.hid (own_apart (HOc.out.alloc _) hv1.out (by decide) hgq); have hD4 := Lib.hid (own_apart (HDc.out.alloc _) hv1.out (by decide) hgq); have hF4 := Lib.hid (own_apart (HFc.out.alloc _) hv1.out (by decide) hgq); replace hB4 := Lib.hid hB4; replace hP4 := Lib.hid hP4; clear hgq _hsq ho4 hv1 hv2 hv3 hvb hv0 hRa) | (at_builtin; refine wpList_append_any _ rfl (.tmp 89) (.tmp 92) 67 rfl w.heap.size 4 i3 (.bool false) 1 1 Tryd.underlying67 hk.out hw0.out hw1.out hw2.out rfl (by omega) A19 j c19 _ rfl (hF4.out.alloc (.cells #[.bool true] 4)) (w4.heap.size + 1) _ 1 1 _ rfl (reads_one w4 _ _) (one_one rfl) hk1 hk2 (show w.heap.size ≤ (w4.alloc (.cells #[.bool true] 4)).heap.size from Nat.le_trans hB4.out.size (by simp)) ?_; intro A1 c1 w2 ho2 hgq _hsq; have hB2 : Below w.heap.size w w2 := below_app (hB4.out.alloc hB4.out.size (.cells #[.bool true] 4)) hgq (hF4.out.alloc (.cells #[.bool true] 4)) (show w.heap.size ≤ (w4.alloc (.cells #[.bool true] 4)).heap.size from Nat.le_trans hB4.out.size (by simp)); have hL2 := Lib.hid (Lists.apart (hP4.out.below ((Below.refl _ w4).alloc (Nat.le_refl _) _)) (hF4.out.alloc _) (by decide) (by decide) (Nat.le_refl _) hgq); have hO2 := Lib.hid (own_apart (hO4.out.alloc _) (hF4.out.alloc _) (by decide) hgq); have hD2 := Lib.hid (own_apart (hD4.out.alloc _) (hF4.out.alloc _) (by decide) hgq); replace ho2 := Lib.hid ho2; replace hB2 := Lib.hid hB2; clear hgq _hsq))
            go_roundw
            case rel =>
              refine ⟨j + 1, nbj, b, c16, c3, c1, A16, A3, A1, rfl, rfl, rfl, rfl, by go_num, by omega, by omega, by omega, ?_, ?_, hB2, hO2, ?_, ?_, ?_⟩
              · show b + _ = j + 1
                rw [TK4.out, ← Nat.add_assoc, HG.out]
              · show nbj ≤ t * q + (j + 1)
                rw [HXJ.out]; exact Nat.le_succ_of_le HNJ.out
              · rw [HXJ.out, TK3.out]; exact hD2
              · rw [TK1.out]; exact hL2
              · rw [TK2.out, List.map_append]; exact ho2
            case measure => simp [intOf]; omega
          | false =>
            have he : Crcp.cutE B ≠ 0 := of_decide_eq_false (hgd ▸ hgb)
            rw [hgb] at TK2 TK3 TK4
            rw [if_neg (by decide)] at TK3
            rw [if_neg (by decide)] at TK4
            obtain ⟨er, her⟩ : ∃ er, Crcp.cutE B = er := ⟨_, rfl⟩
            rw [her] at KC he
            have e1 : (er == (0 : Int)) = false := by simp [he]
            have e2 : (er != (0 : Int)) = true := by simp [he]
            clear hgd hgb he her
            generalize Crcp.cutV B = V at *
            go_wp2_with fail
            refine KC.out.mono ?_; rintro e wc ⟨Ap, cp, rfl, hfc⟩
            have HBc := Lib.hid (below_then HB.out hfc.2)
            have HOc := Lib.hid (own_belowL HO.out hfc.2)
            have HDc := Lib.hid (own_belowL HD.out hfc.2)
            have HFc := Lib.hid (own_belowL HF.out hfc.2)
            have HLc := Lib.hid (HL.out.below hfc.2)
            have HRc := Lib.hid (RowOK.own (b0 := 0) (own_base (base' := w.heap.size) hfc.1 HB.out.size))
            have hln : Hid (V.length = lv) := hlv
            clear hfc KC HB HO HD HF HL
            have hLa := HLc.out.below ((Below.refl _ wc).alloc (Nat.le_refl _) (.cells #[.slice Ap lv cp] 27))
            have hRa := RowOK.below (HRc.out.2) HLc.out.b0s HLc.out.bs ((Below.refl _ wc).alloc (Nat.le_refl _) (.cells #[.slice Ap lv cp] 27))
            obtain ⟨⟨vs, hv1, hv2, hv3⟩, hvb, hv0⟩ := hLa
            replace hv1 := Lib.hid hv1; replace hv2 := Lib.hid hv2; replace hv3 := Lib.hid hv3; replace hvb := Lib.hid hvb; replace hv0 := Lib.hid hv0; replace hRa := Lib.hid hRa
            clear HLc HRc
            have hm1 := hm1'
            have hm2 := hm2'
            go_wp2_with (first | (at_builtin; refine wpList_append_any _ rfl (.tmp 85) (.tmp 87) 55 rfl w.heap.size 27 i1 (.slice none 0 0) 1 24 Tryd.underlying55 hi_.out hy0.out hy1.out hy2.out rfl (by omega) A18 j c18 _ rfl hv1.out (wc.heap.size + 1) _ 1 1 _ rfl (reads_one wc _ _) (one_one rfl) hc1 hc2 hvb.out ?_; intro A3 c3 w4 ho4 hgq _hsq; have hB4 : Below w.heap.size w w4 := below_app (HBc.out.alloc HBc.out.size (.cells #[.slice Ap lv cp] 27)) hgq hv1.out hvb.out; have hP4 := Lists.pushN hln.out hRa.out hv1.out hv2.out hv3.out hv0.out hvb.out ho4 hgq; have hO4 := Lib.hid (own_apart (HOc.out.alloc _) hv1.out (by decide) hgq); have hD4 := Lib.hid (own_apart (HDc.out.alloc _) hv1.out (by decide) hgq); have hF4 := Lib.hid (own_apart (HFc.out.alloc _) hv1.out (by decide) hgq); replace hB4 := Lib.hid hB4; replace hP4 := Lib.hid hP4; clear hgq _hsq ho4 hv1 hv2 hv3 hvb hv0 hRa) | (at_builtin; refine wpList_append_any _ rfl (.tmp 89) (.tmp 92) 67 rfl w.heap.size 4 i3 (.bool false) 1 1 Tryd.underlying67 hk.out hw0.out hw1.out hw2.out rfl (by omega) A19 j c19 _ rfl (hF4.out.alloc (.cells #[.bool false] 4)) (w4.heap.size + 1) _ 1 1 _ rfl (reads_one w4 _ _) (one_one rfl) hk1 hk2 (show w.heap.size ≤ (w4.alloc (.cells #[.bool false] 4)).heap.size from Nat.le_trans hB4.out.size (by simp)) ?_; intro A1 c1 w2 ho2 hgq _hsq; have hB2 : Below w.heap.size w w2 := below_app (hB4.out.alloc hB4.out.size (.cells #[.bool false] 4)) hgq (hF4.out.alloc (.cells #[.bool false] 4)) (show w.heap.size ≤ (w4.alloc (.cells #[.bool false] 4)).heap.size from Nat.le_trans hB4.out.size (by simp)); have hL2 := Lib.hid (Lists.apart (hP4.out.below ((Below.refl _ w4).alloc (Nat.le_refl _) _)) (hF4.out.alloc _) (by decide) (by decide) (Nat.le_refl _) hgq); have hO2 := Lib.hid (own_apart (hO4.out.alloc _) (hF4.out.alloc _) (by decide) hgq); have hD2 := Lib.hid (own_apart (hD4.out.alloc _) (hF4.out.alloc _) (by decide) hgq); replace ho2 := Lib.hid ho2; replace hB2 := Lib.hid hB2; clear hgq _hsq) | (at_builtin; refine wpList_append_any _ rfl (.tmp 96) (.tmp 101) 32 rfl w.heap.size 3 i2 (.int .i64 0) 1 8 Tryd.underlying32 hj.out hx0.out hx1.out hx2.out rfl (by omega) A16 nbj c16 _ rfl (hD2.out.alloc (.cells #[.int .i64 (x : Int)] 3)) (w2.heap.size + 1) _ 1 1 _ rfl (reads_one w2 _ _) (one_one rfl) hm1 hm2 (show w.heap.size ≤ (w2.alloc (.cells #[.int .i64 (x : Int)] 3)).heap.size from Nat.le_trans hB2.out.size (by simp)) ?_; intro A2 c2 w3 ho3 hgq _hsq; have hB3 : Below w.heap.size w w3 := below_app (hB2.out.alloc hB2.out.size (.cells #[.int .i64 (x : Int)] 3)) hgq (hD2.out.alloc (.cells #[.int .i64 (x : Int)] 3)) (show w.heap.size ≤ (w2.alloc (.cells #[.int .i64 (x : Int)] 3)).heap.size from Nat.le_trans hB2.out.size (by simp)); have hL3 := Lib.hid (Lists.apart (hL2.out.below ((Below.refl _ w2).alloc (Nat.le_refl _) _)) (hD2.out.alloc _) (by decide) (by decide) (Nat.le_refl _) hgq); have hO3 := Lib.hid (own_apart (hO2.out.alloc _) (hD2.out.alloc _) (by decide) hgq); have hF3 := Lib.hid (own_apart (ho2.out.alloc _) (hD2.out.alloc _) (by decide) hgq); replace ho3 := Lib.hid ho3; replace hB3 := Lib.hid hB3; clear hgq _hsq))
            go_roundw
            case rel =>
              refine ⟨j + 1, nbj + 1, b + 1, c2, c3, c1, A2, A3, A1, rfl, rfl, rfl, by go_num, by go_num, by omega, by omega, by omega, ?_, ?_, hB3, hO3, ?_, ?_, ?_⟩
              · show b + 1 + _ = j + 1
                have h1 := HG.out; have h2 := TK4.out; omega
              · show nbj + 1 ≤ t * q + (j + 1)
                rw [HXJ.out]; exact Nat.succ_le_succ HNJ.out
              · rw [HXJ.out, TK3.out, List.map_append]; exact ho3
              · rw [TK1.out]; exact hL3
              · rw [TK2.out, List.map_append]; exact hF3
            case measure => simp [intOf]; omega
        · have hjq : j = q := by omega
          subst hjq
          have hge2 : ¬ (j : Int) < (k : Int) + (m : Int) := by omega
          have hge3 : ¬ (j : Int) < (j : Int) := by omega
          have hcl : cs.length = j := hq.out ▸ hcsl.out.1
          have HQ2 : Hid (k + m = j) := hq
          rw [List.take_of_length_le (by rw [Stp.cutL_len, hcl]; exact Nat.le_refl _)] at HL
          rw [List.take_of_length_le (by rw [Stp.goodL_len, hcl]; exact Nat.le_refl _)] at HF
          by_cases hbm : m < b
          · have hbm' : (m : Int) < (b : Int) := by omega
            have hfew : (Rsp.gd (Stp.goodL cs) j).length < k := by have := HG.out; have := HQ2.out; omega
            have h12 := hFEW.out hfew
            have hF := hFIRST.out (by rw [h12]; decide)
            rw [h12] at hF
            replace hF := Lib.hid hF
            clear h12 hfew
            go_wp2_with fail
            go_ret3
            rw [hF.out.1, hF.out.2.1, hF.out.2.2]
            exact RdRet.nil HB.out
          · have hbm' : ¬ (m : Int) < (b : Int) := by omega
            have hmore : ¬ (Rsp.gd (Stp.goodL cs) j).length < k := by have := HG.out; have := HQ2.out; omega
            obtain ⟨hM0, hM2⟩ := hMORE.out hmore
            have hV := Stp.cs_mendV k1 HQ2.out km hcl (fun c hc => (hcsl.out.2 c hc).trans hce.out.symm) hM0
            have hVd := hVL.out hM0
            have KM := refMend_in k m j A18 A19 c18 c19 (Stp.cutL cs) (Stp.goodL cs) wr HQ2.out k1 km HL.out.rows8 (Reads.of_own HF.out) (fun x hx => by
              unfold Stp.cutL at hx
              obtain ⟨y, hy, rfl⟩ := List.mem_map.1 hx
              have := Stp.cutV_le ((hcsl.out.2 y hy).trans hce.out.symm); omega)
            rw [hM0] at KM
            unfold LsErr at KM
            have hCV : Stp.csV k m cs = ((Rsp.mendV k m (Stp.cutL cs) (Stp.goodL cs)).take k).flatten := rfl
            rw [hCV] at hVd hOUT
            generalize Rsp.mendV k m (Stp.cutL cs) (Stp.goodL cs) = V at *
            obtain ⟨hVn, hVl⟩ := hV
            rw [hVn] at KM
            replace KM := Lib.hid KM
            have VN := Lib.hid hVn
            have VL := Lib.hid hVl
            have VD := Lib.hid hVd
            have M2 := Lib.hid hM2
            have hgl : Hid ((Stp.goodL cs).length = j) := by rw [Hid, Stp.goodL_len]; exact hcl
            have hpl : Hid ((Stp.cutL cs).length = j) := by rw [Hid, Stp.cutL_len]; exact hcl
            generalize Stp.cutL cs = PA at *
            generalize Stp.goodL cs = GO at *
            clear hVn hVl hVd hM2 hM0 hmore hCV hFEW hMORE hVL hcl hcsl hcsg HG
            go_wp2_with fail
            refine KM.out.mono ?_; rintro e we ⟨Ay, cy, rfl, hly, hBe'⟩
            have HBe := Lib.hid (below_then HB.out hBe')
            have HOe := Lib.hid (own_belowL HO.out hBe')
            have HDe := Lib.hid (own_belowL HD.out hBe')
            have HLe := Lib.hid (HL.out.below hBe')
            have HFe := Lib.hid (own_belowL HF.out hBe')
            have HYe := Lib.hid hly
            have hbw : Hid (w.heap.size ≤ wr.heap.size) := HB.out.size
            have hOlt := Lib.hid (own_lt HO.out)
            have hDlt := Lib.hid (own_lt HD.out)
            have hwe : Hid (wr.heap.size ≤ we.heap.size) := hBe'.size
            obtain ⟨Wb, hWb⟩ : ∃ Wb, Wb = wr := ⟨_, rfl⟩
            subst hWb
            clear KM hly hBe' HB HO HD HL HF
            go_wp2_with fail
            go_loopw [27] (fun v27 wr => ∃ (x : Nat), v27 = .int .i64 (x : Nat) ∧ x ≤ j ∧ Hid (∀ y, y < x → GO.getD y false = true → V.getD y [] = PA.getD y []) ∧ Hid (Dr we wr)) (fun v27 _ => j - (intOf v27).toNat)
            case atStart => exact ⟨0, rfl, Nat.zero_le _, fun y hy => by omega, Dr.refl _⟩
            case round =>
              obtain ⟨x, rfl, hxj, HX, HDr⟩ := hrel
              by_cases hlt3 : x < j
              · have hlt3' : (x : Int) < (k : Int) + (m : Int) := by omega
                have hlt3q : (x : Int) < (j : Int) := by omega
                have hx0 : (0 : Int) ≤ (x : Int) := by omega
                obtain ⟨ad1, ys, A1, n1, c1, hA1, -, hys, hc1, -, -, hr1⟩ := HYe.out.rows8.row hlt3
                obtain ⟨ad2, zs, A2, n2, c2, hA2, -, hzs, hc2, -, -, hr2⟩ := HLe.out.rows8.row hlt3
                obtain ⟨ad3, u, hA3, -, hu, hc3⟩ := (Reads.of_own HFe.out).at_ hlt3
                rw [List.getElem?_map, List.getElem?_eq_getElem (by rw [hgl.out]; exact hlt3)] at hu
                have hu' : Value.bool (GO[x]'(by rw [hgl.out]; exact hlt3)) = u := by simpa using hu
                have hGx : GO.getD x false = GO[x]'(by rw [hgl.out]; exact hlt3) := by rw [List.getD_eq_getElem?_getD, List.getElem?_eq_getElem (by rw [hgl.out]; exact hlt3)]; rfl
                obtain ⟨f, hf⟩ : ∃ f, GO[x]'(by rw [hgl.out]; exact hlt3) = f := ⟨_, rfl⟩
                rw [hf] at hu' hGx
                subst hu'
                subst hA1 hA2 hA3
                obtain ⟨sa, hsa⟩ : ∃ sa : ByteArray, (⟨ys.toArray⟩ : ByteArray) = sa := ⟨_, rfl⟩
                obtain ⟨sb, hsb⟩ : ∃ sb : ByteArray, (⟨zs.toArray⟩ : ByteArray) = sb := ⟨_, rfl⟩
                have SD : Hid (∀ W, Dr we W → W.cell? (ad3.add x) = some (.bool f) ∧ W.cell? (ad1.add x) = some (.slice A1 n1 c1) ∧ W.cell? (ad2.add x) = some (.slice A2 n2 c2) ∧ (convert 27 9 (.slice A1 n1 c1)).run Tryd.prog W = .ok (.string sa) W ∧ (convert 27 9 (.slice A2 n2 c2)).run Tryd.prog W = .ok (.string sb) W) := fun W hW => by
                  have hb : Below we.heap.size we W := hW.below _
                  refine ⟨(hb.cell (p := ad3.add x) (lt_of_cell hc3)).trans hc3, (hb.cell (p := ad1.add x) (lt_of_cell hc1)).trans hc1, (hb.cell (p := ad2.add x) (lt_of_cell hc2)).trans hc2, ?_, ?_⟩
                  · rw [← hsa]; exact run_str _ _ 5 Tryd.underlying27 Tryd.underlying5 Tryd.underlying9 (hr1.below hb)
                  · rw [← hsb]; exact run_str _ _ 5 Tryd.underlying27 Tryd.underlying5 Tryd.underlying9 (hr2.below hb)
                have hV1 : V.getD x [] = ys := by rw [List.getD_eq_getElem?_getD, hys]; rfl
                have hP1 : PA.getD x [] = zs := by rw [List.getD_eq_getElem?_getD, hzs]; rfl
                have hDr1 : Dr we wr.drew := HDr.out.drewN 1
                have hS0 := SD.out _ hDr1
                replace hDr1 := Lib.hid hDr1
                clear hu hf hys hzs hc1 hc2 hc3 hr1 hr2
                cases f with
                | false =>
                  go_wp2_with fail
                  refine region_E 17 (fun W => W.cell? (ad3.add x) = some (.bool false)) (by kernel_rfl) hS0.1 (fun hHeld => ?_)
                  refine took 0 (v := ?_) rfl (by kernel_rfl) (by kernel_rfl) (by kernel_rfl) (by kernel_rfl) (fun _ _ _ h => h) (by rfl) (by assumption) ?_ ?_
                  rotate_left
                  · (intro W hSw; (try dsimp only at hSw); go_simp; first | done | with_reducible rfl)
                  try simp only [Act.put, List.setIfInBounds_toArray, List.set_cons_zero, List.set_cons_succ]
                  refine took 1 (v := ?_) rfl (by kernel_rfl) (by kernel_rfl) (by kernel_rfl) (by kernel_rfl) (fun _ _ _ h => h) (by rfl) (by assumption) ?_ ?_
                  rotate_left
                  · (intro W hSw; (try dsimp only at hSw); go_simp; first | done | with_reducible rfl)
                  try simp only [Act.put, List.setIfInBounds_toArray, List.set_cons_zero, List.set_cons_succ]
                  refine took 2 (v := ?_) rfl (by kernel_rfl) (by kernel_rfl) (by kernel_rfl) (by kernel_rfl) (fun _ _ _ h => h) (by rfl) (by assumption) ?_ ?_
                  rotate_left
                  · (intro W hSw; (try dsimp only at hSw); go_simp; first | done | with_reducible rfl)
                  try simp only [Act.put, List.setIfInBounds_toArray, List.set_cons_zero, List.set_cons_succ]
                  refine took 3 (v := ?_) rfl (by kernel_rfl) (by kernel_rfl) (by kernel_rfl) (by kernel_rfl) (fun _ _ _ h => h) (by rfl) (by assumption) ?_ ?_
                  rotate_left
                  · (intro W hSw; (try dsimp only at hSw); go_simp; first | done | with_reducible rfl)
                  try simp only [Act.put, List.setIfInBounds_toArray, List.set_cons_zero, List.set_cons_succ]
                  refine took 4 (v := ?_) rfl (by kernel_rfl) (by kernel_rfl) (by kernel_rfl) (by kernel_rfl) (fun _ _ _ h => h) (by rfl) (by assumption) ?_ ?_
                  rotate_left
                  · (intro W hSw; (try dsimp only at hSw); go_simp; first | done | with_reducible rfl)
                  try simp only [Act.put, List.setIfInBounds_toArray, List.set_cons_zero, List.set_cons_succ]
                  refine passed 5 rfl (by kernel_rfl) (by kernel_rfl) (by kernel_rfl) (by kernel_rfl) (fun _ _ _ h => h) (by rfl) (by assumption) ?_
                  try simp only [Act.put, List.setIfInBounds_toArray, List.set_cons_zero, List.set_cons_succ]
                  refine passed 6 rfl (by kernel_rfl) (by kernel_rfl) (by kernel_rfl) (by kernel_rfl) (fun _ _ _ h => h) (by rfl) (by assumption) ?_
                  try simp only [Act.put, List.setIfInBounds_toArray, List.set_cons_zero, List.set_cons_succ]
                  refine passed 7 rfl (by kernel_rfl) (by kernel_rfl) (by kernel_rfl) (by kernel_rfl) (fun _ _ _ h => h) (by rfl) (by assumption) ?_
                  try simp only [Act.put, List.setIfInBounds_toArray, List.set_cons_zero, List.set_cons_succ]
                  refine passed 8 rfl (by kernel_rfl) (by kernel_rfl) (by kernel_rfl) (by kernel_rfl) (fun _ _ _ h => h) (by rfl) (by assumption) ?_
                  try simp only [Act.put, List.setIfInBounds_toArray, List.set_cons_zero, List.set_cons_succ]
                  refine passed 9 rfl (by kernel_rfl) (by kernel_rfl) (by kernel_rfl) (by kernel_rfl) (fun _ _ _ h => h) (by rfl) (by assumption) ?_
                  try simp only [Act.put, List.setIfInBounds_toArray, List.set_cons_zero, List.set_cons_succ]
                  refine passed 10 rfl (by kernel_rfl) (by kernel_rfl) (by kernel_rfl) (by kernel_rfl) (fun _ _ _ h => h) (by rfl) (by assumption) ?_
                  try simp only [Act.put, List.setIfInBounds_toArray, List.set_cons_zero, List.set_cons_succ]
                  refine passed 11 rfl (by kernel_rfl) (by kernel_rfl) (by kernel_rfl) (by kernel_rfl) (fun _ _ _ h => h) (by rfl) (by assumption) ?_
                  try simp only [Act.put, List.setIfInBounds_toArray, List.set_cons_zero, List.set_cons_succ]
                  refine passed 12 rfl (by kernel_rfl) (by kernel_rfl) (by kernel_rfl) (by kernel_rfl) (fun _ _ _ h => h) (by rfl) (by assumption) ?_
                  try simp only [Act.put, List.setIfInBounds_toArray, List.set_cons_zero, List.set_cons_succ]
                  refine passed 13 rfl (by kernel_rfl) (by kernel_rfl) (by kernel_rfl) (by kernel_rfl) (fun _ _ _ h => h) (by rfl) (by assumption) ?_
                  try simp only [Act.put, List.setIfInBounds_toArray, List.set_cons_zero, List.set_cons_succ]
                  refine passed 14 rfl (by kernel_rfl) (by kernel_rfl) (by kernel_rfl) (by kernel_rfl) (fun _ _ _ h => h) (by rfl) (by assumption) ?_
                  try simp only [Act.put, List.setIfInBounds_toArray, List.set_cons_zero, List.set_cons_succ]
                  refine passed 15 rfl (by kernel_rfl) (by kernel_rfl) (by kernel_rfl) (by kernel_rfl) (fun _ _ _ h => h) (by rfl) (by assumption) ?_
                  try simp only [Act.put, List.setIfInBounds_toArray, List.set_cons_zero, List.set_cons_succ]
                  refine took 16 (v := ?_) rfl (by kernel_rfl) (by kernel_rfl) (by kernel_rfl) (by kernel_rfl) (fun _ _ _ h => h) (by rfl) (by assumption) ?_ ?_
                  rotate_left
                  · (intro W hSw; (try dsimp only at hSw); go_simp; first | done | with_reducible rfl)
                  try simp only [Act.put, List.setIfInBounds_toArray, List.set_cons_zero, List.set_cons_succ]
                  refine allDone (by kernel_rfl) ?_ _
                  clear hHeld hS0 SD
                  go_wp2_with fail
                  go_roundw
                  case rel =>
                    refine ⟨x + 1, by go_num, by omega, fun y hy hg => ?_, hDr1⟩
                    by_cases h : y < x
                    · exact HX.out y h hg
                    · have : y = x := by omega
                      subst this
                      rw [hGx] at hg; cases hg
                  case measure => simp [intOf]; omega
                | true =>
                  by_cases hyz : ys = zs
                  · have heq : (sa == sb) = true := by rw [← hsa, ← hsb, bytes_beq]; exact decide_eq_true hyz
                    have heL : (sa.toList == sb.toList) = true := by rw [bytes_beqL hsa hsb]; exact decide_eq_true hyz
                    have hne : (sa != sb) = false := by unfold bne; rw [heq]; rfl
                    replace hsa := Lib.hid hsa; replace hsb := Lib.hid hsb; replace hyz := Lib.hid hyz
                    go_wp2_with fail
                    refine region_E 17 (fun W => W.cell? (ad3.add x) = some (.bool true) ∧ W.cell? (ad1.add x) = some (.slice A1 n1 c1) ∧ W.cell? (ad2.add x) = some (.slice A2 n2 c2) ∧ (convert 27 9 (.slice A1 n1 c1)).run Tryd.prog W = .ok (.string sa) W ∧ (convert 27 9 (.slice A2 n2 c2)).run Tryd.prog W = .ok (.string sb) W) (by kernel_rfl) hS0 (fun hHeld => ?_)
                    refine took 0 (v := ?_) rfl (by kernel_rfl) (by kernel_rfl) (by kernel_rfl) (by kernel_rfl) (fun _ _ _ h => h) (by rfl) (by assumption) ?_ ?_
                    rotate_left
                    · (intro W hSw; (try dsimp only at hSw); go_simp; first | done | with_reducible rfl)
                    try simp only [Act.put, List.setIfInBounds_toArray, List.set_cons_zero, List.set_cons_succ]
                    refine took 1 (v := ?_) rfl (by kernel_rfl) (by kernel_rfl) (by kernel_rfl) (by kernel_rfl) (fun _ _ _ h => h) (by rfl) (by assumption) ?_ ?_
                    rotate_left
                    · (intro W hSw; (try dsimp only at hSw); go_simp; first | done | with_reducible rfl)
                    try simp only [Act.put, List.setIfInBounds_toArray, List.set_cons_zero, List.set_cons_succ]
                    refine took 2 (v := ?_) rfl (by kernel_rfl) (by kernel_rfl) (by kernel_rfl) (by kernel_rfl) (fun _ _ _ h => h) (by rfl) (by assumption) ?_ ?_
                    rotate_left
                    · (intro W hSw; (try dsimp only at hSw); go_simp; first | done | with_reducible rfl)
                    try simp only [Act.put, List.setIfInBounds_toArray, List.set_cons_zero, List.set_cons_succ]
                    refine took 3 (v := ?_) rfl (by kernel_rfl) (by kernel_rfl) (by kernel_rfl) (by kernel_rfl) (fun _ _ _ h => h) (by rfl) (by assumption) ?_ ?_
                    rotate_left
                    · (intro W hSw; (try dsimp only at hSw); go_simp; first | done | with_reducible rfl)
                    try simp only [Act.put, List.setIfInBounds_toArray, List.set_cons_zero, List.set_cons_succ]
                    refine took 4 (v := ?_) rfl (by kernel_rfl) (by kernel_rfl) (by kernel_rfl) (by kernel_rfl) (fun _ _ _ h => h) (by rfl) (by assumption) ?_ ?_
                    rotate_left
                    · (intro W hSw; (try dsimp only at hSw); go_simp; first | done | with_reducible rfl)
                    try simp only [Act.put, List.setIfInBounds_toArray, List.set_cons_zero, List.set_cons_succ]
                    refine took 5 (v := ?_) rfl (by kernel_rfl) (by kernel_rfl) (by kernel_rfl) (by kernel_rfl) (fun _ _ _ h => h) (by rfl) (by assumption) ?_ ?_
                    rotate_left
                    · (intro W hSw; (try dsimp only at hSw); go_simp; first | done | with_reducible rfl)
                    try simp only [Act.put, List.setIfInBounds_toArray, List.set_cons_zero, List.set_cons_succ]
                    refine took 6 (v := ?_) rfl (by kernel_rfl) (by kernel_rfl) (by kernel_rfl) (by kernel_rfl) (fun _ _ _ h => h) (by rfl) (by assumption) ?_ ?_
                    rotate_left
                    · (intro W hSw; (try dsimp only at hSw); go_simp; first | done | with_reducible rfl)
                    try simp only [Act.put, List.setIfInBounds_toArray, List.set_cons_zero, List.set_cons_succ]
                    refine took 7 (v := ?_) rfl (by kernel_rfl) (by kernel_rfl) (by kernel_rfl) (by kernel_rfl) (fun _ _ _ h => h) (by rfl) (by assumption) ?_ ?_
                    rotate_left
                    · (intro W hSw; (try dsimp only at hSw); go_simp; first | done | with_reducible rfl)
                    try simp only [Act.put, List.setIfInBounds_toArray, List.set_cons_zero, List.set_cons_succ]
                    refine took 8 (v := ?_) rfl (by kernel_rfl) (by kernel_rfl) (by kernel_rfl) (by kernel_rfl) (fun _ _ _ h => h) (by rfl) (by assumption) ?_ ?_
                    rotate_left
                    · (intro W hSw; (try dsimp only at hSw); go_simp; first | done | with_reducible rfl)
                    try simp only [Act.put, List.setIfInBounds_toArray, List.set_cons_zero, List.set_cons_succ]
                    refine took 9 (v := ?_) rfl (by kernel_rfl) (by kernel_rfl) (by kernel_rfl) (by kernel_rfl) (fun _ _ _ h => h) (by rfl) (by assumption) ?_ ?_
                    rotate_left
                    · (intro W hSw; (try dsimp only at hSw); go_simp; first | done | with_reducible rfl)
                    try simp only [Act.put, List.setIfInBounds_toArray, List.set_cons_zero, List.set_cons_succ]
                    refine took 10 (v := ?_) rfl (by kernel_rfl) (by kernel_rfl) (by kernel_rfl) (by kernel_rfl) (fun _ _ _ h => h) (by rfl) (by assumption) ?_ ?_
                    rotate_left
                    · (intro W hSw; (try dsimp only at hSw); go_simp; first | done | with_reducible rfl)
                    try simp only [Act.put, List.setIfInBounds_toArray, List.set_cons_zero, List.set_cons_succ]
                    refine took 11 (v := ?_) rfl (by kernel_rfl) (by kernel_rfl) (by kernel_rfl) (by kernel_rfl) (fun _ _ _ h => h) (by rfl) (by assumption) ?_ ?_
                    rotate_left
                    · (intro W hSw; (try dsimp only at hSw); go_simp; first | done | with_reducible rfl)
                    try simp only [Act.put, List.setIfInBounds_toArray, List.set_cons_zero, List.set_cons_succ]
                    refine took 12 (v := ?_) rfl (by kernel_rfl) (by kernel_rfl) (by kernel_rfl) (by kernel_rfl) (fun _ _ _ h => h) (by rfl) (by assumption) ?_ ?_
                    rotate_left
                    · (intro W hSw; (try dsimp only at hSw); go_simp; first | done | with_reducible rfl)
                    try simp only [Act.put, List.setIfInBounds_toArray, List.set_cons_zero, List.set_cons_succ]
                    refine took 13 (v := ?_) rfl (by kernel_rfl) (by kernel_rfl) (by kernel_rfl) (by kernel_rfl) (fun _ _ _ h => h) (by rfl) (by assumption) ?_ ?_
                    rotate_left
                    · (intro W hSw; (try dsimp only at hSw); go_simp; first | done | with_reducible rfl)
                    try simp only [Act.put, List.setIfInBounds_toArray, List.set_cons_zero, List.set_cons_succ]
                    refine took 14 (v := ?_) rfl (by kernel_rfl) (by kernel_rfl) (by kernel_rfl) (by kernel_rfl) (fun _ _ _ h => h) (by rfl) (by assumption) ?_ ?_
                    rotate_left
                    · (intro W hSw; (try dsimp only at hSw); go_simp; first | done | with_reducible rfl)
                    try simp only [Act.put, List.setIfInBounds_toArray, List.set_cons_zero, List.set_cons_succ]
                    refine took 15 (v := ?_) rfl (by kernel_rfl) (by kernel_rfl) (by kernel_rfl) (by kernel_rfl) (fun _ _ _ h => h) (by rfl) (by assumption) ?_ ?_
                    rotate_left
                    · (intro W hSw; (try dsimp only at hSw); go_simp; first | done | with_reducible rfl)
                    try simp only [Act.put, List.setIfInBounds_toArray, List.set_cons_zero, List.set_cons_succ]
                    refine took 16 (v := ?_) rfl (by kernel_rfl) (by kernel_rfl) (by kernel_rfl) (by kernel_rfl) (fun _ _ _ h => h) (by rfl) (by assumption) ?_ ?_
                    rotate_left
                    · (intro W hSw; (try dsimp only at hSw); go_simp; first | done | with_reducible rfl)
                    try simp only [Act.put, List.setIfInBounds_toArray, List.set_cons_zero, List.set_cons_succ]
                    refine allDone (by kernel_rfl) ?_ _
                    clear hHeld hS0 SD
                    go_wp2_with fail
                    go_roundw
                    case rel =>
                      refine ⟨x + 1, by go_num, by omega, fun y hy hg => ?_, hDr1⟩
                      by_cases h : y < x
                      · exact HX.out y h hg
                      · have : y = x := by omega
                        subst this
                        rw [hV1, hP1]; exact hyz.out
                    case measure => simp [intOf]; omega
                  · have hab : ¬ sa = sb := fun h => hyz (by rw [← hsa, ← hsb] at h; injection h with h; simpa using congrArg Array.toList h)
                    have heq : (sa == sb) = false := by rw [← hsa, ← hsb, bytes_beq]; exact decide_eq_false hyz
                    have heL : (sa.toList == sb.toList) = false := by rw [bytes_beqL hsa hsb]; exact decide_eq_false hyz
                    have hne : (sa != sb) = true := by unfold bne; rw [heq]; rfl
                    have h2 := M2.out
                    rw [if_pos (Stp.clash_yes hlt3 hGx (by rw [hV1, hP1]; exact hyz))] at h2
                    have hF := hFIRST.out (by rw [h2]; decide)
                    rw [h2] at hF
                    replace hF := Lib.hid hF
                    have HBx := Lib.hid (below_then HBe.out (hDr1.out.below _))
                    replace hsa := Lib.hid hsa; replace hsb := Lib.hid hsb
                    clear hyz hab h2
                    go_wp2_with fail
                    refine region_E 17 (fun W => W.cell? (ad3.add x) = some (.bool true) ∧ W.cell? (ad1.add x) = some (.slice A1 n1 c1) ∧ W.cell? (ad2.add x) = some (.slice A2 n2 c2) ∧ (convert 27 9 (.slice A1 n1 c1)).run Tryd.prog W = .ok (.string sa) W ∧ (convert 27 9 (.slice A2 n2 c2)).run Tryd.prog W = .ok (.string sb) W) (by kernel_rfl) hS0 (fun hHeld => ?_)
                    refine took 0 (v := ?_) rfl (by kernel_rfl) (by kernel_rfl) (by kernel_rfl) (by kernel_rfl) (fun _ _ _ h => h) (by rfl) (by assumption) ?_ ?_
                    rotate_left
                    · (intro W hSw; (try dsimp only at hSw); go_simp; first | done | with_reducible rfl)
                    try simp only [Act.put, List.setIfInBounds_toArray, List.set_cons_zero, List.set_cons_succ]
                    refine took 1 (v := ?_) rfl (by kernel_rfl) (by kernel_rfl) (by kernel_rfl) (by kernel_rfl) (fun _ _ _ h => h) (by rfl) (by assumption) ?_ ?_
                    rotate_left
                    · (intro W hSw; (try dsimp only at hSw); go_simp; first | done | with_reducible rfl)
                    try simp only [Act.put, List.setIfInBounds_toArray, List.set_cons_zero, List.set_cons_succ]
                    refine took 2 (v := ?_) rfl (by kernel_rfl) (by kernel_rfl) (by kernel_rfl) (by kernel_rfl) (fun _ _ _ h => h) (by rfl) (by assumption) ?_ ?_
                    rotate_left
                    · (intro W hSw; (try dsimp only at hSw); go_simp; first | done | with_reducible rfl)
                    try simp only [Act.put, List.setIfInBounds_toArray, List.set_cons_zero, List.set_cons_succ]
                    refine took 3 (v := ?_) rfl (by kernel_rfl) (by kernel_rfl) (by kernel_rfl) (by kernel_rfl) (fun _ _ _ h => h) (by rfl) (by assumption) ?_ ?_
                    rotate_left
                    · (intro W hSw; (try dsimp only at hSw); go_simp; first | done | with_reducible rfl)
                    try simp only [Act.put, List.setIfInBounds_toArray, List.set_cons_zero, List.set_cons_succ]
                    refine took 4 (v := ?_) rfl (by kernel_rfl) (by kernel_rfl) (by kernel_rfl) (by kernel_rfl) (fun _ _ _ h => h) (by rfl) (by assumption) ?_ ?_
                    rotate_left
                    · (intro W hSw; (try dsimp only at hSw); go_simp; first | done | with_reducible rfl)
                    try simp only [Act.put, List.setIfInBounds_toArray, List.set_cons_zero, List.set_cons_succ]
                    refine took 5 (v := ?_) rfl (by kernel_rfl) (by kernel_rfl) (by kernel_rfl) (by kernel_rfl) (fun _ _ _ h => h) (by rfl) (by assumption) ?_ ?_
                    rotate_left
                    · (intro W hSw; (try dsimp only at hSw); go_simp; first | done | with_reducible rfl)
                    try simp only [Act.put, List.setIfInBounds_toArray, List.set_cons_zero, List.set_cons_succ]
                    refine took 6 (v := ?_) rfl (by kernel_rfl) (by kernel_rfl) (by kernel_rfl) (by kernel_rfl) (fun _ _ _ h => h) (by rfl) (by assumption) ?_ ?_
                    rotate_left
                    · (intro W hSw; (try dsimp only at hSw); go_simp; first | done | with_reducible rfl)
                    try simp only [Act.put, List.setIfInBounds_toArray, List.set_cons_zero, List.set_cons_succ]
                    refine took 7 (v := ?_) rfl (by kernel_rfl) (by kernel_rfl) (by kernel_rfl) (by kernel_rfl) (fun _ _ _ h => h) (by rfl) (by assumption) ?_ ?_
                    rotate_left
                    · (intro W hSw; (try dsimp only at hSw); go_simp; first | done | with_reducible rfl)
                    try simp only [Act.put, List.setIfInBounds_toArray, List.set_cons_zero, List.set_cons_succ]
                    refine took 8 (v := ?_) rfl (by kernel_rfl) (by kernel_rfl) (by kernel_rfl) (by kernel_rfl) (fun _ _ _ h => h) (by rfl) (by assumption) ?_ ?_
                    rotate_left
                    · (intro W hSw; (try dsimp only at hSw); go_simp; first | done | with_reducible rfl)
                    try simp only [Act.put, List.setIfInBounds_toArray, List.set_cons_zero, List.set_cons_succ]
                    refine took 9 (v := ?_) rfl (by kernel_rfl) (by kernel_rfl) (by kernel_rfl) (by kernel_rfl) (fun _ _ _ h => h) (by rfl) (by assumption) ?_ ?_
                    rotate_left
                    · (intro W hSw; (try dsimp only at hSw); go_simp; first | done | with_reducible rfl)
                    try simp only [Act.put, List.setIfInBounds_toArray, List.set_cons_zero, List.set_cons_succ]
                    refine took 10 (v := ?_) rfl (by kernel_rfl) (by kernel_rfl) (by kernel_rfl) (by kernel_rfl) (fun _ _ _ h => h) (by rfl) (by assumption) ?_ ?_
                    rotate_left
                    · (intro W hSw; (try dsimp only at hSw); go_simp; first | done | with_reducible rfl)
                    try simp only [Act.put, List.setIfInBounds_toArray, List.set_cons_zero, List.set_cons_succ]
                    refine took 11 (v := ?_) rfl (by kernel_rfl) (by kernel_rfl) (by kernel_rfl) (by kernel_rfl) (fun _ _ _ h => h) (by rfl) (by assumption) ?_ ?_
                    rotate_left
                    · (intro W hSw; (try dsimp only at hSw); go_simp; first | done | with_reducible rfl)
                    try simp only [Act.put, List.setIfInBounds_toArray, List.set_cons_zero, List.set_cons_succ]
                    refine took 12 (v := ?_) rfl (by kernel_rfl) (by kernel_rfl) (by kernel_rfl) (by kernel_rfl) (fun _ _ _ h => h) (by rfl) (by assumption) ?_ ?_
                    rotate_left
                    · (intro W hSw; (try dsimp only at hSw); go_simp; first | done | with_reducible rfl)
                    try simp only [Act.put, List.setIfInBounds_toArray, List.set_cons_zero, List.set_cons_succ]
                    refine took 13 (v := ?_) rfl (by kernel_rfl) (by kernel_rfl) (by kernel_rfl) (by kernel_rfl) (fun _ _ _ h => h) (by rfl) (by assumption) ?_ ?_
                    rotate_left
                    · (intro W hSw; (try dsimp only at hSw); go_simp; first | done | with_reducible rfl)
                    try simp only [Act.put, List.setIfInBounds_toArray, List.set_cons_zero, List.set_cons_succ]
                    refine took 14 (v := ?_) rfl (by kernel_rfl) (by kernel_rfl) (by kernel_rfl) (by kernel_rfl) (fun _ _ _ h => h) (by rfl) (by assumption) ?_ ?_
                    rotate_left
                    · (intro W hSw; (try dsimp only at hSw); go_simp; first | done | with_reducible rfl)
                    try simp only [Act.put, List.setIfInBounds_toArray, List.set_cons_zero, List.set_cons_succ]
                    refine took 15 (v := ?_) rfl (by kernel_rfl) (by kernel_rfl) (by kernel_rfl) (by kernel_rfl) (fun _ _ _ h => h) (by rfl) (by assumption) ?_ ?_
                    rotate_left
                    · (intro W hSw; (try dsimp only at hSw); go_simp; first | done | with_reducible rfl)
                    try simp only [Act.put, List.setIfInBounds_toArray, List.set_cons_zero, List.set_cons_succ]
                    refine took 16 (v := ?_) rfl (by kernel_rfl) (by kernel_rfl) (by kernel_rfl) (by kernel_rfl) (fun _ _ _ h => h) (by rfl) (by assumption) ?_ ?_
                    rotate_left
                    · (intro W hSw; (try dsimp only at hSw); go_simp; first | done | with_reducible rfl)
                    try simp only [Act.put, List.setIfInBounds_toArray, List.set_cons_zero, List.set_cons_succ]
                    refine allDone (by kernel_rfl) ?_ _
                    clear hHeld hS0 SD
                    go_wp2_with fail
                    go_ret3
                    rw [hF.out.1, hF.out.2.1, hF.out.2.2]
                    exact RdRet.nil HBx.out
              · have hge4 : ¬ (x : Int) < (k : Int) + (m : Int) := by omega
                have hge5 : ¬ (x : Int) < (j : Int) := by omega
                obtain rfl : x = j := by omega
                have hE0 : Hid (Stp.csE k m cs = 0) := by
                  have h2 := M2.out
                  rw [Stp.clash_no (fun y hy hg => HX.out y hy hg)] at h2
                  exact h2
                replace HQ2 := Lib.hid HQ2.out
                have HBl := Lib.hid (below_then HBe.out (HDr.out.below _))
                have HOl := Lib.hid (HDr.out.own HOe.out)
                have HDl := Lib.hid (HDr.out.own HDe.out)
                have HYl := Lib.hid (HDr.out.lists HYe.out)
                have hwr' : Hid (Wb.heap.size ≤ wr.heap.size) := by rw [Hid, HDr.out.size]; exact hwe.out
                obtain ⟨W2, hW2⟩ : ∃ W2, W2 = wr := ⟨_, rfl⟩
                subst hW2
                obtain ⟨gq, hgq⟩ : ∃ gq, blkOf A15 0 = gq := ⟨_, rfl⟩
                have hgq2 : Hid (gq < Wb.heap.size) := by
                  have h0 : 0 < Wb.heap.size := by have := hbw.out; omega
                  rcases blkOf_or A15 0 with e | e
                  · rw [Hid, ← hgq, e]; exact h0
                  · rw [hgq] at e
                    exact hOlt.out gq e
                have HAx : Hid (Aside W2 W2 gq A15) := Aside.here fun q hq => .inl (hgq ▸ blkOf_spec hq)
                have hAD : Hid (∀ g, A16.map (·.block) = some g → g ≠ gq) := fun g hg e => by
                  obtain ⟨cs', fr, hc⟩ := own_row HDl.out g hg
                  rcases blkOf_or A15 0 with e' | e'
                  · have := hDlt.out g hg
                    rw [hgq] at e'
                    rw [e, e'] at hg
                    have hb0 := (HDl.out.lt 0 (by rw [ownBlock_slice]; exact hg)).1
                    omega
                  · rw [hgq] at e'
                    obtain ⟨cs2, fr2, hc2⟩ := own_row HOl.out gq e'
                    rw [e, hc2] at hc
                    injection hc with hc
                    injection hc with _ hc
                    exact absurd hc (by decide)
                have ROW := Lib.hid (fun (W : World) (Aq : Option Addr) (hW : Aside W2 W gq Aq) (y : Nat) (hy : y < x) => (HYl.out.aside (Nat.zero_le _) hgq2.out hW).rows8.row hy)
                have hkj : k ≤ x := by have := HQ2.out; omega
                have hMk : M + k * ch ≤ 16777216 := by
                  have h2 := SH.out.hd
                  rw [← h2]; omega
                have hDl0 := Lib.hid (fun g (hg : A16.map (·.block) = some g) => lt_of_heap (own_row HDl.out g hg).choose_spec.choose_spec)
                clear HX HDr HBe HOe HDe HLe HFe HYe HYl M2 hFIRST hDlt hOlt
                go_wp2_with fail
                go_loopw [15, 28] (fun v15 v28 wr => ∃ (y Mq cq : Nat) (Aq : Option Addr), v15 = .slice Aq Mq cq ∧ v28 = .int .i64 (y : Nat) ∧ y ≤ k ∧ Mq ≤ 16777216 ∧ Hid (Mq = M + y * ch) ∧ Hid (Aside W2 wr gq Aq) ∧ Hid (Below w.heap.size w wr) ∧ Hid (wr.ownsRow w.heap.size 5 1 (.slice Aq Mq cq) Mq ((Stp.outTo k m ch s t ++ (V.take y).flatten).map B8))) (fun _ v28 _ => k - (intOf v28).toNat)
                case atStart => exact ⟨0, M, c15, A15, rfl, rfl, Nat.zero_le _, hM, by show M = M + 0 * ch; rw [Nat.zero_mul]; rfl, HAx, HBl, by simpa [Hid] using HOl.out⟩
                case round =>
                  clear HBl HOl HAx
                  obtain ⟨y, Mq, cq, Aq, rfl, rfl, hyk, hMq, HMq, HAq, HBq, HOq⟩ := hrel
                  by_cases hlt4 : y < k
                  · have hlt4' : (y : Int) < (k : Int) := by omega
                    have hlt4j : (y : Int) < (x : Int) := by omega
                    obtain ⟨ad, ys, Ai, ni, ci, hAd, -, hx, hcell, hnic, hcim, hrow⟩ := ROW.out wr Aq HAq.out y (by omega)
                    subst hAd
                    have TK : Hid ((V.take (y + 1)).flatten = (V.take y).flatten ++ ys) := by rw [Hid, take_snoc hx, List.flatten_append]; simp
                    have hxl := VL.out ys (List.mem_of_getElem? hx)
                    have hni : ni = ch := by have := hrow.len; omega
                    rw [hni] at hcell hnic hrow
                    have hMn : Mq + ch ≤ 16777216 := by
                      have := HMq.out
                      have h2 : (y + 1) * ch ≤ k * ch := Nat.mul_le_mul_right _ hlt4
                      rw [Nat.succ_mul] at h2; omega
                    have ONE : Hid (∀ u ∈ ys.map B8, u.oneCell' = true) := row_one hrow
                    have hMx : Mq + ch ≤ maxLen := by unfold maxLen; omega
                    have hMy : (Mq + ch) * 1 ≤ 140737488355328 := by omega
                    have hszp : w.heap.size ≤ wr.heap.size := HBq.out.size
                    replace hrow := Lib.hid hrow
                    clear hx
                    go_wp2_with (at_builtin; refine wpList_append_any _ rfl (.tmp 145) (.tmp 149) 27 rfl w.heap.size 5 i0 (.int .u8 0) 1 1 Tryd.underlying27 hi.out hz0.out hz1.out hz2.out rfl (by omega) Aq Mq cq _ rfl HOq.out wr.heap.size Ai ch ci _ rfl hrow.out ONE.out hMx hMy hszp ?_; intro A5 c5 w4 ho5 hg5 hs5; have HA5 := Lib.hid (HAq.out.grow hg5 hs5); have HB5 : Below w.heap.size w w4 := below_app HBq.out hg5 HOq.out hszp; replace HB5 := Lib.hid HB5; replace ho5 := Lib.hid ho5; clear hg5 hs5)
                    go_roundw
                    case rel =>
                      refine ⟨y + 1, Mq + ch, c5, A5, rfl, by go_num, by omega, hMn, ?_, HA5, HB5, ?_⟩
                      · show Mq + ch = M + (y + 1) * ch
                        rw [HMq.out, Nat.succ_mul, Nat.add_assoc]
                      · have h5 := ho5.out
                        rw [TK.out]
                        simpa [Hid, List.append_assoc] using h5
                    case measure => simp [intOf]; omega
                  · have hge6 : ¬ (y : Int) < (k : Int) := by omega
                    obtain rfl : y = k := by omega
                    have HOz : Hid (wr.ownsRow w.heap.size 5 1 (.slice Aq Mq cq) Mq ((Stp.outTo y m ch s (t + 1)).map B8)) := by rw [hOUT.out]; exact HOq.out
                    have HDz : Hid (wr.ownsRow w.heap.size 3 1 (.slice A16 nbj c16) nbj ((Stp.badTo ce s ((t + 1) * x)).map NV)) := by
                      rw [Nat.succ_mul]
                      exact ownsRow_block HDl.out fun a ha => HAq.out.heap _ (hDl0.out a.block (by rw [ha]; rfl)) (hAD.out a.block (by rw [ha]; rfl))
                    clear HOq HDl HAq ROW
                    go_wp2_with fail
                    go_roundw
                    case rel =>
                      refine ⟨t + 1, i + L, Mq, nbj, cq, c16, Aq, A16, rfl, rfl, by go_num, by omega, by omega, hMq, by omega, ?_, ?_, ?_, ?_, HBq, HOz, HDz⟩
                      · show i + L = (t + 1) * L
                        rw [HI.out, Nat.succ_mul]
                      · show Mq = (t + 1) * d
                        rw [HMq.out, HM.out, Nat.succ_mul, SH.out.hd]
                      · show nbj ≤ (t + 1) * x
                        rw [Nat.succ_mul]; exact HNJ.out
                      · intro z hz
                        by_cases h : z < t
                        · exact HE.out z h
                        · obtain rfl : z = t := by omega
                          rw [hcs.out]; exact hE0.out
                    case measure => simp [intOf]; omega
    · obtain rfl : t = S := by omega
      have hiT2 : i = T := by rw [HI.out, SH.out.hT]
      have hMN : M = N := by rw [HM.out, SH.out.hN]
      subst hMN
      have hge : ¬ (i : Int) < (T : Int) := by omega
      have hGOOD := Lib.hid (fun h => Stp.rdE_good (n := n) HE.out h)
      have hBEH := Lib.hid (fun h => Stp.rdE_behind (n := n) HE.out h)
      have hce2 := hce
      rw [hq.out, hce.out] at hGOOD
      obtain ⟨W2, hW2⟩ : ∃ W2, W2 = wr := ⟨_, rfl⟩
      subst hW2
      obtain ⟨O, hO⟩ : ∃ O, Stp.outTo k m ch s t = O := ⟨_, rfl⟩
      rw [hO] at HO hGOOD hBEH
      obtain ⟨BD, hBD⟩ : ∃ BD, Stp.badTo ce s (t * q) = BD := ⟨_, rfl⟩
      rw [hBD] at HD hGOOD
      have OL : Hid (O.length = M) := by have := HO.out.1; rw [Hid]; simpa using this
      have DL : Hid (BD.length = nb) := by have := HD.out.1; rw [Hid]; simpa using this
      have RO := Lib.hid (Reads.of_own HO.out)
      have RDD := Lib.hid (Reads.of_own HD.out)
      have hcap := (own_cap HO.out).1
      replace hO := Lib.hid hO; replace hBD := Lib.hid hBD
      clear HE HO HD CS CG
      go_wp2_with fail
      go_loopw [29] (fun v29 wr => ∃ (x : Nat), v29 = .int .i64 (x : Nat) ∧ n ≤ x ∧ x ≤ M ∧ Hid (∀ y, n ≤ y → y < x → O[y]? = some 0) ∧ W2 = wr) (fun v29 _ => M - (intOf v29).toNat)
      case atStart => exact ⟨n, rfl, Nat.le_refl _, nN, fun y h1 h2 => by omega, rfl⟩
      case round =>
        obtain ⟨x, rfl, hnx, hxM, HX, rfl⟩ := hrel
        by_cases hlt3 : x < M
        · have hlt3' : (x : Int) < (M : Int) := by omega
          have hx0 : (0 : Int) ≤ (x : Int) := by omega
          obtain ⟨ad, z, hAd, -, hz, hcell⟩ := RO.out.byte hlt3
          subst hAd
          by_cases hzz : z = 0
          · have hz8 : ((z.toNat : Int) == 0) = true := by rw [hzz]; rfl
            have hz9 : ((z.toNat : Int) != 0) = false := by rw [hzz]; rfl
            replace hzz := Lib.hid hzz
            replace hz := Lib.hid hz
            have hz10 : (z.toNat : Int) = 0 := by rw [hzz.out]; rfl
            have hz11 : z.toNat = 0 := by rw [hzz.out]; rfl
            go_wp2_with fail
            go_roundw
            case rel =>
              refine ⟨x + 1, by go_num, by omega, by omega, fun y h1 h2 => ?_, trivial⟩
              by_cases h : y < x
              · exact HX.out y h1 h
              · obtain rfl : y = x := by omega
                rw [hz.out, hzz.out]
            case measure => simp [intOf]; omega
          · have hz10 : ¬ (z.toNat : Int) = 0 := fun h => hzz (UInt8.toNat_inj.1 (by have h0 : (0 : UInt8).toNat = 0 := rfl; omega))
            have hz11 : ¬ z.toNat = 0 := by omega
            have hz8 : ((z.toNat : Int) == 0) = false := by simp [hz11]
            have hz9 : ((z.toNat : Int) != 0) = true := by simp [hz11]
            have hF := Lib.hid (hBEH.out (Stp.behind_yes hz hnx hzz))
            clear hz hzz
            go_wp2_with fail
            go_ret3
            rw [hF.out.1, hF.out.2.1, hF.out.2.2]
            exact RdRet.nil HB.out
        · have hge3 : ¬ (x : Int) < (M : Int) := by omega
          have hF := hGOOD.out (Stp.behind_no fun y h1 h2 => HX.out y h1 (by have := OL.out; omega))
          replace hF := Lib.hid hF
          have hn0 : (0 : Int) ≤ (n : Int) := by omega
          have hnc5 : (n : Int) ≤ (c15 : Int) := by omega
          go_wp2_with fail
          go_ret3
          rw [hF.out.1, hF.out.2.1, hF.out.2.2]
          have hl1 : (O.take n).length = n := by rw [List.length_take, OL.out]; omega
          refine ⟨A15, c15, A16, c16, by rw [hl1, DL.out]; rfl, ?_, ?_, HB.out⟩
          · rw [hl1]; exact RO.out.takeN nN
          · rw [DL.out]; exact RDD.out
end Go.Proofs.YtjbedcgacnnanaaDoor
