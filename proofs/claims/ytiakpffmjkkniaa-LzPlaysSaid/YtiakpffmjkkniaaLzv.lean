/-
  Play walked: the document's.
-/
import Derived.Test.YtiakpffmjkkniaaLzx
namespace Go.Proofs.Ytiakpffmjkkniaa
set_option linter.unusedSimpArgs false
set_option linter.unusedVariables false
open Go.RowKit Go.Maps

set_option maxRecDepth 100000 in
set_option maxHeartbeats 4000000 in
theorem refPlay_any (A : Option Addr) (c B : Nat) (most : Int) (l : List (Nat × Int × Int)) (w : World) (h : Reads w B 3 A l.length (itsC l)) (hB : B ≤ w.heap.size) (hl : l.length ≤ 10000) (hlit : ∀ t ∈ l, t.1 < 256) (hm : most ≤ 9223372036854775807) :
    Calls Try.prog 18 #[.slice A l.length c, .int .i64 most] w fun e w' => ∃ A' c', e = .returned (.tuple #[.slice A' (Lzp.play most l).2.length c', .int .i64 (Lzp.play most l).1]) ∧ w'.ownsRow w.heap.size 5 1 (.slice A' (Lzp.play most l).2.length c') (Lzp.play most l).2.length ((Lzp.play most l).2.map B8) ∧ Below w.heap.size w w' := by
  by_cases hneg : most < 0
  · have Hv : Hid (Lzp.play most l = (13, [])) := by unfold Lzp.play; rw [if_pos hneg]; rfl
    clear h
    go_enter Try.func18, Try.ntmps18
    go_wp2_with fail
    go_ret2
    rw [Hv.out]
    exact ⟨none, 0, rfl, World.ownsRow_nil _ _ _ 1, Below.refl _ _⟩
  have H := Lib.hid h
  have HLIT := Lib.hid hlit
  have h0 : 0 ≤ most := by omega
  have Hv : Hid (Lzp.play most l = Lzp.playGo most l []) := by unfold Lzp.play; rw [if_neg hneg]; rfl
  obtain ⟨i0, hi, hz0, hz1, hz2⟩ := info_parts info_u8
  replace hi := Lib.hid hi; replace hz0 := Lib.hid hz0; replace hz1 := Lib.hid hz1; replace hz2 := Lib.hid hz2
  clear h hlit hneg
  go_enter Try.func18, Try.ntmps18
  go_wp2_with fail
  go_loopw [6, 7] (fun v6 v7 wr => ∃ (k co : Nat) (Ao : Option Addr) (out : List UInt8), v6 = .slice Ao out.length co ∧ v7 = .int .i64 k ∧ k ≤ l.length ∧ out.length ≤ 257 * k ∧ Hid (Lzp.playGo most (l.drop k) out = Lzp.play most l) ∧ Hid (Below w.heap.size w wr) ∧ Hid (wr.ownsRow w.heap.size 5 1 (.slice Ao out.length co) out.length (out.map B8))) (fun _ v7 _ => l.length - (intOf v7).toNat)
  case atStart => exact ⟨0, 0, none, [], rfl, rfl, by omega, by simp, Hv.out.symm, Below.refl _ _, World.ownsRow_nil _ _ _ 1⟩
  case round =>
    obtain ⟨k, co, Ao, out, rfl, rfl, hk, ho, Hp, HB, HO⟩ := hrel
    by_cases hlt : k < l.length
    · have hlt' : (k : Int) < l.length := by omega
      obtain ⟨ad, rfl, hadb, y0, y1, y2⟩ := it_cells (H.out.below (HB.out.mono hB)) k hlt
      have hgs : w.heap.size ≤ wr.heap.size := HB.out.size
      have hx256 := HLIT.out l[k] (List.getElem_mem hlt)
      have Hd : Hid (l.drop k = l[k] :: l.drop (k + 1)) := List.drop_eq_getElem_cons hlt
      have Hs : Hid (Lzp.playGo most (l[k] :: l.drop (k + 1)) out = Lzp.play most l) := by rw [← Hd.out]; exact Hp.out
      clear Hd Hp
      have HY : Hid (∀ W, Below w.heap.size w W → W.cell? (ad.add (k * 3)) = some (.int .u8 ((l[k].1 : Nat) : Int)) ∧ W.cell? ⟨(ad.add (k * 3)).block, (ad.add (k * 3)).off + 1, none⟩ = some (.int .i64 l[k].2.1) ∧ W.cell? ⟨(ad.add (k * 3)).block, (ad.add (k * 3)).off + 2, none⟩ = some (.int .i64 l[k].2.2)) := fun W hW => by
        obtain ⟨ad2, had, _, q0, q1, q2⟩ := it_cells (H.out.below (hW.mono hB)) k hlt
        injection had with had
        subst had
        exact ⟨q0, q1, q2⟩
      obtain ⟨t, ht⟩ : ∃ t, t = l[k] := ⟨_, rfl⟩
      rw [← ht] at Hs y0 y1 y2 hx256 HY
      clear ht
      obtain ⟨lt, ln, ds⟩ := t
      simp only at y0 y1 y2 hx256 HY
      have M := fun W => Lib.hid (refMay_any (lt : Int) ln ds W)
      go_wp2_with fail
      refine (M wr).out.mono ?_; rintro e w2 ⟨rfl, hB2⟩
      have HB2 := Lib.hid (HB.out.trans (hB2.mono HB.out.size))
      have HO2 := Lib.hid (own_belowL HO.out hB2)
      obtain ⟨x0, x1, x2⟩ := HY.out w2 HB2.out
      have hgs2 : w.heap.size ≤ w2.heap.size := HB2.out.size
      clear hB2 HB HO M y0 y1 y2
      rw [Lzp.playGo_cons] at Hs
      simp only at Hs
      cases hmay : Lzp.mayB (lt : Int) ln ds
      · rw [if_pos hmay] at Hs
        clear hmay
        go_wp2_with fail
        go_ret2
        rw [← Hs.out]
        exact ⟨none, 0, rfl, World.ownsRow_nil _ _ _ 1, HB2.out⟩
      · rw [if_neg (by rw [hmay]; simp)] at Hs
        rcases Lzp.may_cases hmay with ⟨rfl, rfl⟩ | ⟨hlt0, hn3, hn257, hd1, hd4⟩
        · rw [if_neg (by omega)] at Hs
          clear hmay
          have hmx : max (1 : Int) 0 = 1 := rfl
          rw [hmx] at Hs
          by_cases hlim : most - (out.length : Int) < 1
          · rw [if_pos hlim] at Hs
            have hlim' : most < (out.length : Int) + 1 := by omega
            clear hlim
            go_wp2_with fail
            go_ret2
            rw [← Hs.out]
            exact ⟨none, 0, rfl, World.ownsRow_nil _ _ _ 1, HB2.out⟩
          · rw [if_neg hlim, if_pos rfl] at Hs
            have hlim' : (out.length : Int) + 1 ≤ most := by omega
            clear hlim
            go_wp2_with (at_builtin; refine wpList_append_any _ rfl (.tmp 52) (.tmp 58) 22 rfl w.heap.size 5 i0 (.int .u8 0) 1 1 Try.underlying22 hi.out hz0.out hz1.out hz2.out rfl (by omega) Ao out.length co _ rfl (HO2.out.alloc _) (w2.heap.size + 1) (some ⟨w2.heap.size, 0, none⟩) 1 1 [.int .u8 (lt : Int)] rfl (reads_one _ _ _) (one_one rfl) (by unfold maxLen; omega) (by omega) (Nat.le_trans hgs2 (by simp)) ?_; intro A3 c3 w3 ho3 hg3 _hs3; have HB3 := Lib.hid (below_app (HB2.out.alloc hgs2 (.cells #[.int .u8 (lt : Int)] 5)) hg3 (HO2.out.alloc _) (Nat.le_trans hgs2 (by simp))); obtain ⟨z0, z1, z2⟩ := HY.out w3 HB3.out; clear hg3 _hs3; replace ho3 := Lib.hid ho3)
            go_loopw [6, 9] (fun v6 v9 wr => v6 = .slice A3 (out.length + 1) c3 ∧ v9 = .int .i64 0 ∧ wr = w3) (fun _ _ _ => 0)
            case atStart => exact ⟨rfl, rfl, rfl⟩
            case round =>
              obtain ⟨rfl, rfl, rfl⟩ := hrel
              go_wp2_with fail
              go_roundw
              case rel =>
                refine ⟨k + 1, c3, A3, out ++ [UInt8.ofNat lt], by simp, by go_num, by omega, by simp; omega, Hs, HB3, ?_⟩
                have h := ho3.out
                rw [show (.int .u8 (lt : Int) : Value) = B8 (UInt8.ofNat lt) by unfold B8; rw [UInt8.toNat_ofNat']; congr 2; omega] at h
                simpa [Hid] using h
              case measure => simp [intOf]; omega
        · have hlt00 : lt = 0 := by omega
          subst hlt00
          obtain ⟨n, rfl⟩ : ∃ n : Nat, ln = (n : Int) := ⟨ln.toNat, by omega⟩
          obtain ⟨d, rfl⟩ : ∃ n : Nat, ds = (n : Int) := ⟨ds.toNat, by omega⟩
          clear hmay
          have hmx : max (1 : Int) (n : Int) = (n : Int) := by omega
          rw [hmx] at Hs
          clear hmx
          by_cases hfar : (out.length : Int) < (d : Int)
          · rw [if_pos hfar] at Hs
            go_wp2_with fail
            go_ret2
            rw [← Hs.out]
            exact ⟨none, 0, rfl, World.ownsRow_nil _ _ _ 1, HB2.out⟩
          · rw [if_neg hfar] at Hs
            have hfar' : (d : Int) ≤ (out.length : Int) := by omega
            have hne : ((n : Int) == 0) = false := by rw [beq_eq_false_iff_ne]; omega
            by_cases hlim : most - (out.length : Int) < (n : Int)
            · rw [if_pos hlim] at Hs
              have hlim' : most < (out.length : Int) + (n : Int) := by omega
              clear hlim
              go_wp2_with fail
              go_ret2
              rw [← Hs.out]
              exact ⟨none, 0, rfl, World.ownsRow_nil _ _ _ 1, HB2.out⟩
            · rw [if_neg hlim, if_neg (by omega), Int.toNat_natCast, Int.toNat_natCast] at Hs
              have hlim' : (out.length : Int) + (n : Int) ≤ most := by omega
              clear hlim
              go_wp2_with fail
              have hfd : decide (out.length < d) = false := by rw [decide_eq_false_iff_not]; omega
              try simp only [hfd]
              clear hfd
              go_loopw [6, 9] (fun v6 v9 wr => ∃ (j cq : Nat) (Aq : Option Addr) (o' : List UInt8), v6 = .slice Aq o'.length cq ∧ v9 = .int .i64 j ∧ j ≤ n ∧ o'.length = out.length + j ∧ Hid (Lzp.copyN d (n - j) o' = Lzp.copyN d n out) ∧ Hid (Below w.heap.size w wr) ∧ Hid (wr.ownsRow w.heap.size 5 1 (.slice Aq o'.length cq) o'.length (o'.map B8))) (fun _ v9 _ => n - (intOf v9).toNat)
              case atStart => exact ⟨0, co, Ao, out, rfl, rfl, by omega, rfl, rfl, HB2, HO2⟩
              case round =>
                obtain ⟨j, cq, Aq, o', rfl, rfl, hj, hol, Hc, HBq, HOq⟩ := hrel
                obtain ⟨q0, q1, q2⟩ := HY.out wr HBq.out
                by_cases hjn : j < n
                · have hjn' : (j : Int) < n := by omega
                  obtain ⟨q, hq⟩ : ∃ q, q = o'.length - d := ⟨_, rfl⟩
                  have hqd : q + d = o'.length := by omega
                  obtain ⟨adq, rfl, cq'⟩ := byte_at HOq.out q (by omega)
                  have hqx := (o'.getD q 0).toNat_lt
                  have Hc2 : Hid (Lzp.copyN d (n - (j + 1)) (o' ++ [o'.getD q 0]) = Lzp.copyN d n out) := by
                    have h := Hc.out
                    rw [show n - j = (n - (j + 1)) + 1 by omega] at h
                    rw [hq]; exact h
                  have HX : Hid (B8 (o'.getD q 0) = .int .u8 (((o'.getD q 0).toNat : Nat) : Int)) := rfl
                  generalize hx : o'.getD q 0 = x at *
                  clear hx hq
                  have r1 : IntKind.i64.wrap ((o'.length : Int) - (d : Int)) = (q : Int) := by rw [show ((o'.length : Int) - (d : Int)) = ((q : Nat) : Int) by omega, IntKind.wrap_i64]; omega
                  have r2 : (o'.length : Int) - (d : Int) = (q : Int) := by omega
                  have l1 : (q : Int) < (o'.length : Int) := by omega
                  have hgq : w.heap.size ≤ wr.heap.size := HBq.out.size
                  have hob : o'.length ≤ 257 * k + 257 := by omega
                  have Hol := Lib.hid hol
                  clear hol
                  generalize hxn : x.toNat = xn at *
                  replace hxn := Lib.hid hxn
                  go_wp2_with (at_builtin; refine wpList_append_any _ rfl (.tmp 80) (.tmp 82) 22 rfl w.heap.size 5 i0 (.int .u8 0) 1 1 Try.underlying22 hi.out hz0.out hz1.out hz2.out rfl (by omega) (some adq) o'.length cq _ rfl (HOq.out.alloc _) (wr.heap.size + 1) (some ⟨wr.heap.size, 0, none⟩) 1 1 [.int .u8 (xn : Int)] rfl (reads_one _ _ _) (one_one rfl) (by unfold maxLen; omega) (by omega) (Nat.le_trans hgq (by simp)) ?_; intro A3 c3 w3 ho3 hg3 _hs3; have HB3 := Lib.hid (below_app (HBq.out.alloc hgq (.cells #[.int .u8 (xn : Int)] 5)) hg3 (HOq.out.alloc _) (Nat.le_trans hgq (by simp))); clear hg3 _hs3; replace ho3 := Lib.hid ho3)
                  go_roundw
                  case rel =>
                    refine ⟨j + 1, c3, A3, o' ++ [x], by simp, by go_num, by omega, by have := Hol.out; simp; omega, Hc2, HB3, ?_⟩
                    have h := ho3.out
                    rw [← HX.out] at h
                    simpa [Hid] using h
                  case measure => simp [intOf]; omega
                · have hjn2 : j = n := by omega
                  have hge : (n : Int) ≤ (j : Int) := by omega
                  have He : Hid (o' = Lzp.copyN d n out) := by
                    have h := Hc.out
                    rw [hjn2, Nat.sub_self] at h; exact h
                  rw [← He.out] at Hs
                  go_wp2_with fail
                  go_roundw
                  case rel => exact ⟨k + 1, cq, Aq, o', rfl, by go_num, by omega, by omega, Hs, HBq, HOq⟩
                  case measure => simp [intOf]; omega
    · have hkl : k = l.length := by omega
      have hge : (l.length : Int) ≤ (k : Int) := by omega
      have He : Hid (Lzp.play most l = (0, out)) := by
        have h := Hp.out
        rw [hkl, List.drop_length] at h
        exact h.symm
      go_wp2_with fail
      go_ret2
      rw [He.out]
      exact ⟨Ao, co, rfl, HO.out, HB.out⟩
end Go.Proofs.Ytiakpffmjkkniaa
