/-
  What one or more lists have: walked.
-/
import Derived.Test.YtpgnaahfkcgflaaSetau
namespace Go.Proofs.Ytpgnaahfkcgflaa
set_option linter.unusedSimpArgs false
set_option linter.unusedVariables false
open Go.RowKit

set_option maxRecDepth 100000 in
set_option maxHeartbeats 8000000 in
theorem any_in (A : Option Addr) (n c : Nat) (xss : List (List Int)) (w : World) (h : RowsI w w.heap.size A n xss) (hs1 : xss.length ≤ 1000) (hs : Short xss) (htl : Setp.total xss ≤ 1000000) (ha : allSets xss = true) (hn0 : 0 < n) :
    Calls Try.prog 23 #[.slice A n c] w (SlErrI w (Setp.anyL xss) 0) := by
  have hl := h.len
  have hn : n ≤ 1000 := by omega
  have BG := Lib.hid (begin_any A n c xss w h (by omega) hs)
  unfold BegRet at BG
  simp only [ha, if_true, hl] at BG
  have QS := Lib.hid (Setp.Qu.start (allSets_mem ha))
  have QO := Lib.hid (fun l (hq : Setp.Qu xss [l]) => hq.one (allSets_mem ha))
  have TL : Hid (Setp.total xss ≤ 1000000) := htl
  obtain ⟨vs, hvr, hvl, hvx⟩ := h
  have hvlen : vs.length = n := by have := hvr.1; omega
  have EL0 : Hid (∀ (W : World) i v ys, vs[i]? = some v → xss[i]? = some ys → El w W v ys) := fun W i v ys hv hy => by
    obtain ⟨Ai, ni, ci, h1, h2, h3, h4⟩ := hvx i ys hy
    rw [hv] at h1
    injection h1 with h1
    exact ⟨Ai, ni, ci, h1, h2, .inl h4⟩
  have ONE : Hid (∀ u ∈ vs, u.oneCell' = true) := fun u hu => by
    obtain ⟨i, hi, rfl⟩ := List.getElem_of_mem hu
    exact (EL0.out w i vs[i] (xss[i]'(by omega)) (List.getElem?_eq_getElem _) (List.getElem?_eq_getElem _)).one
  have CL := Lib.hid (fun (W : World) (hW : Below w.heap.size w W) => cloneR_any A n c w.heap.size vs W (hvr.below hW) hW.size (by omega) ONE.out)
  unfold SlRet at CL
  have XL := Lib.hid hl
  clear hvr hvx hl hs ha hs1 htl
  obtain ⟨G, hG⟩ : ∃ G, Hid (Setp.anyL xss = G) := ⟨_, rfl⟩
  rw [hG.out] at QO
  rw [hG.out]
  go_enter Try.func23, Try.ntmps23
  go_wp2_with fail
  refine BG.out.mono ?_; rintro e w1 ⟨Ap, cp, gs, rfl, hop, hw1, hB1⟩
  replace hB1 := Lib.hid hB1
  clear hop hw1 BG
  go_wp2_with fail
  refine (CL.out _ hB1.out).mono ?_; rintro e w2 ⟨A3, c3, rfl, hf⟩
  have HB2 := Lib.hid (below_thenI hB1.out hf.below)
  have hM2 : Hid (Mid w2 w.heap.size 25 A3 n c3 vs) := by
    cases A3 with
    | none => 
      rcases hf.1.2 with ⟨_, h0⟩ | ⟨g, cap, cur, hv, _⟩
      · omega
      · cases hv
    | some ad => exact Mid.of_own (own_base hf.1 hB1.out.size)
  clear hf CL
  go_wp2_with fail
  go_loopw [6] (fun v6 wr => ∃ (A6 : Option Addr) (n6 c6 : Nat) (us : List Value) (yss : List (List Int)), v6 = .slice A6 n6 c6 ∧ 1 ≤ n6 ∧ n6 ≤ 1000 ∧ Hid (Below w.heap.size w wr) ∧ Hid (Mid wr w.heap.size 25 A6 n6 c6 us) ∧ Hid (yss.length = n6) ∧ Hid (∀ (i : Nat) v ys, us[i]? = some v → yss[i]? = some ys → El w wr v ys) ∧ Hid (Setp.Qu xss yss) ∧ Hid (Setp.total yss ≤ 1000000)) (fun v6 _ => (match v6 with | .slice _ p _ => p | _ => 0))
  case atStart => exact ⟨A3, n, c3, vs, xss, rfl, hn0, hn, HB2, hM2, XL, EL0.out w2, QS, TL⟩
  case round =>
    clear hM2 HB2
    obtain ⟨A6, n6, c6, us, yss, rfl, hn61, hn62, HB, HMid, HY, HE, HQ, HT⟩ := hrel
    by_cases h2 : 1 < n6
    · have h2' : (1 : Int) < (n6 : Int) := by omega
      have hn60 : 0 < n6 := by omega
      have hul := HMid.out.1
      have hyl := HY.out
      obtain ⟨va, vb, ut, hus⟩ : ∃ va vb ut, us = va :: vb :: ut := by
        match us, hul with
        | va :: vb :: ut, _ => exact ⟨va, vb, ut, rfl⟩
        | [_], h => simp at h; omega
        | [], h => simp at h; omega
      obtain ⟨a, b, t, hys⟩ : ∃ a b t, yss = a :: b :: t := by
        match yss, hyl with
        | a :: b :: t, _ => exact ⟨a, b, t, rfl⟩
        | [_], h => simp at h; omega
        | [], h => simp at h; omega
      subst hus hys
      obtain ⟨Aa, na, ca, rfl, hca, hra⟩ := (HE.out 0 va a rfl rfl).reads HB.out
      obtain ⟨Ab, nb, cb, rfl, hcb, hrb⟩ := (HE.out 1 vb b rfl rfl).reads HB.out
      obtain ⟨ad, hA6, hadb, hcell⟩ := HMid.out.reads.2 (by omega)
      subst hA6
      have ca0 : wr.cell? ad = some (.slice Aa na ca) := by have := hcell 0 _ rfl; simpa [Addr.add] using this
      have cb0 : wr.cell? ⟨ad.block, ad.off + 1, none⟩ = some (.slice Ab nb cb) := hcell 1 _ rfl
      have hla : a.length = na := by have := hra.1; simpa using this
      have hlb : b.length = nb := by have := hrb.1; simpa using this
      have htot : Hid (na + nb ≤ 1000000) := by have := HT.out; simp only [Setp.total] at this; unfold Hid; omega
      have MGE := Lib.hid (merge_any Aa Ab na ca nb cb a b wr.drew (show Reads wr.drew wr.drew.heap.size 1 Aa na _ from hra) (show Reads wr.drew wr.drew.heap.size 1 Ab nb _ from hrb) hca hcb (by have := htot.out; omega) (by have := htot.out; omega))
      unfold SlRet at MGE
      obtain ⟨i0, hi, hz0, hz1, hz2⟩ := info_parts info_sl
      have cut : ∀ W, (Instr.slice 22 (.slice (some ad) n6 c6) (some (.int .i64 2)) none none).run Try.prog W = .ok (.slice (cutA (some ad) c6 2 1) (n6 - 2) (c6 - 2)) W := fun W => by
        have h := run_cut_lo (P := Try.prog) 22 25 i0 1 Try.underlying22 hi hz1 (some ad) n6 c6 2 .i64 (by omega) W
        simpa using h
      replace hi := Lib.hid hi; replace hz0 := Lib.hid hz0; replace hz1 := Lib.hid hz1; replace hz2 := Lib.hid hz2
      have SW : Hid (∀ W, Below wr.heap.size wr W → W.cell? ad = some (.slice Aa na ca) ∧ W.cell? ⟨ad.block, ad.off + 1, none⟩ = some (.slice Ab nb cb)) := fun W hW => ⟨(hW.cell (p := ad) hadb).trans ca0, (hW.cell (p := ⟨ad.block, ad.off + 1, none⟩) hadb).trans cb0⟩
      have NE0 : Hid (n6 - 2 + 1 ≤ c6 - 2 → ∀ ad0, cutA (some ad) c6 2 1 = some ad0 → ad ≠ ad0.add (n6 - 2)) := fun h1 ad0 h2 h3 => by
        unfold cutA at h2
        rw [if_neg (by omega)] at h2
        injection h2 with h2
        subst h2
        rw [add_of_add] at h3
        have := congrArg Addr.off h3
        unfold Addr.add at this
        rw [if_neg (by omega)] at this
        simp at this
      have NE1 : Hid (n6 - 2 + 1 ≤ c6 - 2 → ∀ ad0, cutA (some ad) c6 2 1 = some ad0 → ⟨ad.block, ad.off + 1, none⟩ ≠ ad0.add (n6 - 2)) := fun h1 ad0 h2 h3 => by
        unfold cutA at h2
        rw [if_neg (by omega)] at h2
        injection h2 with h2
        subst h2
        rw [add_of_add] at h3
        have := congrArg Addr.off h3
        unfold Addr.add at this
        rw [if_neg (by omega)] at this
        simp at this
        omega
      clear hra hrb hla hlb hcell
      go_wp2_with fail
      refine region_E 12 (fun W => W.cell? ad = some (.slice Aa na ca) ∧ W.cell? ⟨ad.block, ad.off + 1, none⟩ = some (.slice Ab nb cb)) (by kernel_rfl) ⟨ca0, cb0⟩ (fun hHeld => ?_)
      refine took 0 (v := ?_) rfl (by kernel_rfl) (by kernel_rfl) (by kernel_rfl) (by kernel_rfl) (fun _ _ _ h => h) (by rfl) (by assumption) ?_ ?_
      rotate_left
      · (intro W hSw; (try dsimp only at hSw); go_simp; first | done | with_reducible rfl)
      try simp only [Act.put, List.setIfInBounds_toArray, List.set_cons_zero, List.set_cons_succ]
      refine took 1 (v := ?_) rfl (by kernel_rfl) (by kernel_rfl) (by kernel_rfl) (by kernel_rfl) (fun _ _ _ h => h) (by rfl) (by assumption) ?_ ?_
      rotate_left
      · (intro W hSw; (try dsimp only at hSw); go_simp; first | done | with_reducible rfl)
      try simp only [Act.put, List.setIfInBounds_toArray, List.set_cons_zero, List.set_cons_succ]
      refine took 2 (v := ?_) rfl (by kernel_rfl) (by kernel_rfl) (by kernel_rfl) (by kernel_rfl) (fun _ _ _ h => h) (by rfl) (by assumption) ?_ ?_
      rotate_left
      · (intro W hSw; (try dsimp only at hSw); go_simp; first | done | with_reducible rfl)
      try simp only [Act.put, List.setIfInBounds_toArray, List.set_cons_zero, List.set_cons_succ]
      refine took 3 (v := ?_) rfl (by kernel_rfl) (by kernel_rfl) (by kernel_rfl) (by kernel_rfl) (fun _ _ _ h => h) (by rfl) (by assumption) ?_ ?_
      rotate_left
      · (intro W hSw; (try dsimp only at hSw); go_simp; first | done | with_reducible rfl)
      try simp only [Act.put, List.setIfInBounds_toArray, List.set_cons_zero, List.set_cons_succ]
      refine took 4 (v := ?_) rfl (by kernel_rfl) (by kernel_rfl) (by kernel_rfl) (by kernel_rfl) (fun _ _ _ h => h) (by rfl) (by assumption) ?_ ?_
      rotate_left
      · (intro W hSw; (try dsimp only at hSw); go_simp; first | done | with_reducible rfl)
      try simp only [Act.put, List.setIfInBounds_toArray, List.set_cons_zero, List.set_cons_succ]
      refine took 5 (v := ?_) rfl (by kernel_rfl) (by kernel_rfl) (by kernel_rfl) (by kernel_rfl) (fun _ _ _ h => h) (by rfl) (by assumption) ?_ ?_
      rotate_left
      · (intro W hSw; (try dsimp only at hSw); go_simp; first | done | with_reducible rfl)
      try simp only [Act.put, List.setIfInBounds_toArray, List.set_cons_zero, List.set_cons_succ]
      refine took 6 (v := ?_) rfl (by kernel_rfl) (by kernel_rfl) (by kernel_rfl) (by kernel_rfl) (fun _ _ _ h => h) (by rfl) (by assumption) ?_ ?_
      rotate_left
      · (intro W hSw; (try dsimp only at hSw); go_simp; first | done | with_reducible rfl)
      try simp only [Act.put, List.setIfInBounds_toArray, List.set_cons_zero, List.set_cons_succ]
      refine took 7 (v := ?_) rfl (by kernel_rfl) (by kernel_rfl) (by kernel_rfl) (by kernel_rfl) (fun _ _ _ h => h) (by rfl) (by assumption) ?_ ?_
      rotate_left
      · (intro W hSw; (try dsimp only at hSw); go_simp; first | done | with_reducible rfl)
      try simp only [Act.put, List.setIfInBounds_toArray, List.set_cons_zero, List.set_cons_succ]
      refine carried 8 rfl (by kernel_rfl) (by rfl) (fun K hK => ?_)
      go_simp
      (go_at_call 35; ((with_reducible refine MGE.out.mono ?_); rintro e w2 ⟨Am, cm, rfl, hfm⟩); have HBm := Lib.hid (below_of_drew hfm.below); have hwr2 : w.heap.size ≤ w2.heap.size := Nat.le_trans HB.out.size HBm.out.size; have HOm := Lib.hid (own_base hfm.1 HB.out.size); clear hfm)
      refine hK.out _ _ ((SW.out _ HBm.out)) (fun hHeld => ?_)
      clear hK K
      try simp only [Act.put, List.setIfInBounds_toArray, List.set_cons_zero, List.set_cons_succ]
      refine carried 9 rfl (by kernel_rfl) (by rfl) (fun K hK => ?_)
      go_simp
      skip
      refine hK.out _ _ ((SW.out _ (HBm.out.alloc HBm.out.size _))) (fun hHeld => ?_)
      clear hK K
      try simp only [Act.put, List.setIfInBounds_toArray, List.set_cons_zero, List.set_cons_succ]
      refine carriedL 10 rfl (by kernel_rfl) (fun K hK => ?_)
      (refine step_append_mid rfl (.tmp 20) (.tmp 28) 22 rfl 25 i0 (.slice none 0 0) 24 Try.underlying22 hi.out hz0.out hz1.out hz2.out rfl w.heap.size _ _ _ _ rfl (Mid.alloc (((HMid.out.cut (k := 2) (by omega))).below HBm.out) (.cells #[.slice Am (Setp.merge a b).length cm] 25)) (Nat.le_trans hwr2 (by simp)) ⟨w2.heap.size, 0, none⟩ 1 _ rfl (Blk.new _ _ _ |>.cell 0) rfl (by unfold maxLen; omega) (by omega) ?_; intro A7 c7 w7 hm7 hg7 hk7)
      refine hK.out _ _ (⟨hk7 _ _ (SW.out _ (HBm.out.alloc HBm.out.size _)).1 NE0.out, hk7 _ _ (SW.out _ (HBm.out.alloc HBm.out.size _)).2 NE1.out⟩) (fun hHeld => ?_)
      clear hK K
      try simp only [Act.put, List.setIfInBounds_toArray, List.set_cons_zero, List.set_cons_succ]
      refine took 11 (v := ?_) rfl (by kernel_rfl) (by kernel_rfl) (by kernel_rfl) (by kernel_rfl) (fun _ _ _ h => h) (by rfl) (by assumption) ?_ ?_
      rotate_left
      · (intro W hSw; (try dsimp only at hSw); go_simp; first | done | with_reducible rfl)
      try simp only [Act.put, List.setIfInBounds_toArray, List.set_cons_zero, List.set_cons_succ]
      refine allDone (by kernel_rfl) ?_ _
      have hmc := Mid.alloc (((HMid.out.cut (k := 2) (by omega))).below HBm.out) (.cells #[.slice Am (Setp.merge a b).length cm] 25)
      have hBw : Below w.heap.size w (w2.alloc (.cells #[.slice Am (Setp.merge a b).length cm] 25)) := below_thenI HB.out (HBm.out.alloc HBm.out.size _)
      have hne : 3 ≠ 25 := by decide
      have hB7 := hmc.belowG hBw hg7 hBw.size
      have hzl : El w w7 (.slice Am (Setp.merge a b).length cm) (Setp.merge a b) := El.grown (El.below (show El w w2 _ _ from ⟨Am, _, cm, rfl, (own_cap HOm.out).1, .inr HOm.out⟩) ((Below.refl _ _).alloc (Nat.le_refl _) _)) hmc hg7 hne
      have hq := El.queue HE.out (by simp at hul hyl; omega) (fun x ys hx => El.grown (El.below (El.below hx HBm.out) ((Below.refl _ _).alloc (Nat.le_refl _) _)) hmc hg7 hne) hzl
      have hm7' : Mid w7 w.heap.size 25 A7 (n6 - 2 + 1) c7 (ut ++ [.slice Am (Setp.merge a b).length cm]) := hm7
      have hq2 := HQ.out.step
      have ht2 : Setp.total (t ++ [Setp.merge a b]) ≤ 1000000 := Nat.le_trans Setp.total_step HT.out
      have hl2 : (t ++ [Setp.merge a b]).length = n6 - 2 + 1 := by simp at hyl; rw [List.length_append, List.length_singleton]; omega
      clear hmc hBw hzl HOm HBm hm7 hg7 hk7 MGE SW HQ HE HT HMid HB
      generalize Setp.merge a b = M at *
      replace hm7' := Lib.hid hm7'; replace hB7 := Lib.hid hB7; replace hq := Lib.hid hq; replace hq2 := Lib.hid hq2; replace ht2 := Lib.hid ht2; replace hl2 := Lib.hid hl2
      go_wp2_with fail
      go_roundw
      case rel => exact ⟨A7, n6 - 2 + 1, c7, _, _, rfl, by omega, by omega, hB7, hm7', hl2, hq, hq2, ht2⟩
      case measure => simp; omega
    · obtain rfl : n6 = 1 := by omega
      obtain ⟨v, rfl⟩ : ∃ v, us = [v] := by
        match us, HMid.out.1 with
        | [v], _ => exact ⟨v, rfl⟩
      obtain ⟨l, rfl⟩ : ∃ l, yss = [l] := by
        match yss, HY.out with
        | [l], _ => exact ⟨l, rfl⟩
      obtain ⟨Aa, na, ca, rfl, hca, hra⟩ := (HE.out 0 v l rfl rfl).reads HB.out
      obtain ⟨ad, hA6, hadb, hcell⟩ := HMid.out.reads.2 (by omega)
      subst hA6
      have ca0 : wr.cell? ad = some (.slice Aa na ca) := by have := hcell 0 _ rfl; simpa [Addr.add] using this
      have hlG := QO.out l HQ.out
      subst hlG
      have hla : l.length = na := by have := hra.1; simpa using this
      have hT : na ≤ 1000000 := by have := HT.out; simp only [Setp.total] at this; omega
      have CI := Lib.hid (fun (W : World) (hW : Below wr.heap.size wr W) => cloneI_any Aa na ca wr.heap.size l W (hra.below hW) hW.size (by omega))
      unfold SlRet at CI
      clear hcell hra HE HQ HT HMid HY
      go_wp2_with fail
      refine (CI.out _ (Below.refl _ _)).mono ?_; rintro e w8 ⟨A8, c8, rfl, hf8⟩
      go_wp2_with fail
      go_ret2
      exact ⟨A8, c8, (show Ending.returned (.tuple #[.slice A8 na c8, .int .i64 0]) = _ by rw [hla]), (by rw [hla]; exact own_base hf8.1 HB.out.size), below_thenI HB.out hf8.below⟩
end Go.Proofs.Ytpgnaahfkcgflaa
