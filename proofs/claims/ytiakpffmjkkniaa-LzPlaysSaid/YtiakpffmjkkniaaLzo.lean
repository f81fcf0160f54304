/-
  The document's Size walked; the law LzLongest.
-/
import Derived.Test.YtiakpffmjkkniaaLzm
namespace Go.Proofs.Ytiakpffmjkkniaa
set_option linter.unusedSimpArgs false
set_option linter.unusedVariables false
open Go.RowKit Go.Maps

theorem toksC_take : ∀ (l : List (Nat × Nat × Nat)) (k : Nat), toksC (l.take k) = (toksC l).take (k * 3)
  | l, 0 => by rw [List.take_zero, Nat.zero_mul, List.take_zero]; rfl
  | [], k+1 => by rw [List.take_nil]; exact (List.take_nil).symm
  | a :: l, k+1 => by
    rw [List.take_succ_cons, show toksC (a :: l.take k) = tokC a ++ toksC (l.take k) by simp [toksC], show toksC (a :: l) = tokC a ++ toksC l by simp [toksC], toksC_take l k]
    rw [show (k + 1) * 3 = (tokC a).length + k * 3 by simp only [tokC, List.length_cons, List.length_nil]; omega, List.take_length_add_append]
theorem reads_takeT {w : World} {B n k : Nat} {A : Option Addr} {l : List (Nat × Nat × Nat)} (h : Reads w B 3 A n (toksC l)) (hk : k ≤ l.length) : Reads w B 3 A k (toksC (l.take k)) := by
  have hl := h.1
  rw [toksC_len] at hl
  refine ⟨by rw [toksC_len, List.length_take]; omega, fun h0 => ?_⟩
  obtain ⟨ad, hA, hb, hc⟩ := h.2 (by omega)
  refine ⟨ad, hA, hb, fun j u hu => hc j u ?_⟩
  rw [toksC_take, List.getElem?_take] at hu
  split at hu
  · exact hu
  · cases hu

set_option maxRecDepth 100000 in
set_option maxHeartbeats 1000000 in
theorem size_any (A : Option Addr) (c B most : Nat) (l : List (Nat × Nat × Nat)) (w : World) (h : Reads w B 3 A l.length (toksC l)) (hn : l.length < 4294967296) (hl : ∀ t ∈ l, t.2.1 ≤ 257) (hm : Lzp.sizeT l ≤ most) (hmost : most < 4611686018427387904) :
    Calls Try.prog 13 #[.slice A l.length c, .int .i64 most] w fun e w' => e = .returned (.int .i64 (Lzp.sizeT l)) ∧ w = w' := by
  have H := Lib.hid h
  have HL := Lib.hid hl
  have HM := fun k => Lib.hid (Nat.le_trans (Lzp.sizeT_mono l k) hm)
  clear h hl
  go_enter Try.func13, Try.ntmps13
  go_wp2_with fail
  go_loop [5, 6] (fun v5 v6 => ∃ k : Nat, v5 = .int .i64 (Lzp.sizeT (l.take k)) ∧ v6 = .int .i64 k ∧ k ≤ l.length) (fun _ v6 => l.length - (intOf v6).toNat)
  case atStart => exact ⟨0, rfl, rfl, by omega⟩
  case round =>
    obtain ⟨k, rfl, rfl, hk⟩ := hrel
    by_cases hlt : k < l.length
    · have hlt' : (k : Int) < l.length := by omega
      obtain ⟨ad, rfl, _, x0, x1, x2⟩ := tok_cells' H.out k hlt
      have h257 := HL.out l[k] (List.getElem_mem hlt)
      have hs : Hid (Lzp.sizeT (l.take (k + 1)) = Lzp.sizeT (l.take k) + Lzp.size1 l[k]) := by
        rw [List.take_add_one, List.getElem?_eq_getElem hlt]; exact Lzp.sizeT_snoc _ _
      have hs2 : Hid (Lzp.size1 l[k] = if 0 < l[k].2.1 then l[k].2.1 else 1) := by
        unfold Lzp.size1
        by_cases h0 : 0 < l[k].2.1
        · rw [if_pos ⟨h0, by omega⟩, if_pos h0]; rfl
        · rw [if_neg (fun h => h0 h.1), if_neg h0]; rfl
      have hk0 := (HM k).out
      have hk1 := (HM (k + 1)).out
      rw [hs.out, hs2.out] at hk1
      generalize l[k].1 = t0 at *
      generalize l[k].2.1 = t1 at *
      generalize l[k].2.2 = t2 at *
      generalize Lzp.sizeT (l.take k) = z at *
      by_cases h0 : 0 < t1
      · have h0' : (0 : Int) < t1 := by omega
        have h3' : (t1 : Int) < 300 := by omega
        rw [if_pos h0] at hs2 hk1
        have hle : (z : Int) + (t1 : Int) ≤ (most : Int) := by omega
        go_wp2_with fail
        go_round
        case rel => exact ⟨k + 1, by rw [hs.out, hs2.out]; go_num, by go_num, by omega⟩
        case measure => simp [intOf]; omega
      · have h0' : t1 = 0 := by omega
        rw [if_neg h0] at hs2 hk1
        subst h0'
        have hle : (z : Int) + 1 ≤ (most : Int) := by omega
        go_wp2_with fail
        go_round
        case rel => exact ⟨k + 1, by rw [hs.out, hs2.out]; go_num, by go_num, by omega⟩
        case measure => simp [intOf]; omega
    · have hkl : k = l.length := by omega
      have Ht : Hid (l.take k = l) := by rw [hkl]; exact List.take_length
      have hge : (l.length : Int) ≤ (k : Int) := by omega
      go_wp2_with fail
      go_ret
      exact ⟨ret_int (by first | rfl | rw [Ht.out]), rfl⟩

theorem find_pos (bs : List UInt8) (h : 0 < bs.length) : 0 < (Lzp.find bs).length := by
  rw [Lzp.find_from, Lzp.from_step bs 0 h]; simp

set_option maxRecDepth 100000 in
set_option maxHeartbeats 4000000 in
theorem lzLongest_walk (A : Option Addr) (n c : Nat) (bs : List UInt8) (which dist : Nat) (w : World) (l1 : n ≤ c) (m1 : c ≤ maxLen) (h1 : Reads w w.heap.size 1 A n (bs.map B8)) (hwh : which < 65536) (hdi : dist < 65536) :
    Calls Try.prog 4 #[.slice A n c, .int .u16 which, .int .u16 dist] w fun e w' => e = .returned (.bool true) ∧ Below w.heap.size w w' := by
  have H := Lib.hid h1
  clear h1 l1 m1
  go_enter Try.func4, Try.ntmps4
  go_wp2_with fail
  refine (alive_any _).mono ?_; rintro e w1 ⟨rfl, hB1⟩
  have HB1 := Lib.hid hB1
  clear hB1
  by_cases hn : (3000 : Int) < n
  · go_wp2_with fail
    go_ret
    exact ⟨rfl, HB1.out⟩
  by_cases hn0 : n = 0
  · subst hn0
    go_wp2_with fail
    go_ret
    exact ⟨rfl, HB1.out⟩
  have hne : ((n : Int) == 0) = false := by rw [beq_eq_false_iff_ne]; omega
  have hn2 : n < 4294967296 := by omega
  have L : Hid (bs.length = n) := H.out.len
  have F1 := Lib.hid (find_any A n c w.heap.size bs w1 (H.out.below HB1.out) HB1.out.size hn2)
  have hlp : 0 < (Lzp.find bs).length := find_pos bs (by rw [L.out]; omega)
  have hlen : (Lzp.find bs).length ≤ n := by have := Lzp.find_len bs; rw [L.out] at this; exact this
  have hl257 := Lib.hid (fun t h => (Lzp.find_lt bs t h).2.1)
  obtain ⟨k0, hk0, hk0l⟩ : ∃ k : Nat, (which : Int) % ((Lzp.find bs).length : Int) = (k : Int) ∧ k < (Lzp.find bs).length := by
    have : which % (Lzp.find bs).length < (Lzp.find bs).length := Nat.mod_lt _ hlp
    exact ⟨which % (Lzp.find bs).length, by rw [Int.natCast_emod], this⟩
  obtain ⟨d0, hd0, hd0l⟩ : ∃ k : Nat, (dist : Int) % 4095 = (k : Int) ∧ k < 4095 := ⟨dist % 4095, by omega, by omega⟩
  have hat := Lib.hid (Lzp.find_at bs k0 hk0l)
  have hsm := Lib.hid (Lzp.find_split bs k0 (by omega)).2
  generalize Lzp.find bs = l at *
  go_wp2_with fail
  refine F1.out.mono ?_; rintro e w2 ⟨A2, c2, rfl, ho2, hB2⟩
  have HB2 := Lib.hid (below_then HB1.out hB2)
  have hcap := own_cap ho2
  obtain ⟨hcap1, hcap2⟩ := hcap
  have HR2 := Lib.hid (Reads.of_own ho2)
  clear hB2 ho2
  have hlne : ((l.length : Int) == 0) = false := by rw [beq_eq_false_iff_ne]; omega
  have hkc : (k0 : Int) ≤ (c2 : Int) := by omega
  have S := Lib.hid (size_any A2 c2 w2.heap.size n (l.take k0) w2 (by rw [List.length_take, Nat.min_eq_left (by omega)]; exact reads_takeT HR2.out (by omega)) (by rw [List.length_take]; omega) (fun t ht => hl257.out t (List.mem_of_mem_take ht)) (by have := hsm.out; rw [L.out] at this; exact this) (by omega))
  rw [List.length_take, Nat.min_eq_left (by omega)] at S
  obtain ⟨p, hp⟩ : ∃ p, p = Lzp.sizeT (l.take k0) := ⟨_, rfl⟩
  rw [← hp] at S hat
  clear hp hsm
  have hpn : p < n := by have := hat.out.2; rw [L.out] at this; exact this
  go_wp2_with fail
  rw [hk0]
  go_wp2_with fail
  refine S.out.mono ?_; rintro e w' ⟨rfl, rfl⟩
  have hp0 : (p : Int) < n := by omega
  by_cases hdp : p < 1 + d0
  · have hdp' : (p : Int) < 1 + (dist : Int) % 4095 := by omega
    go_wp2_with fail
    go_ret
    exact ⟨rfl, HB2.out⟩
  have hdp' : 1 + (dist : Int) % 4095 ≤ (p : Int) := by omega
  go_wp2_with fail
  try rw [hd0]
  obtain ⟨d, hd⟩ : ∃ d : Nat, d = 1 + d0 := ⟨_, rfl⟩
  rw [show (1 : Int) + (d0 : Int) = (d : Int) by omega]
  have hd1 : 1 ≤ d := by omega
  have hd2 : d ≤ 4095 := by omega
  have hdpp : d ≤ p := by omega
  have HW : Hid (d ≤ Lzp.win p) := by unfold Lzp.win Hid; omega
  obtain ⟨q, hq⟩ : ∃ q, q = p - d := ⟨_, rfl⟩
  have hqd : q + d = p := by omega
  clear hd hd0 hd0l hdp hdp' hq hdi hk0
  have HR : Hid (Reads w2 w.heap.size 1 A n (bs.map B8)) := H.out.below HB2.out
  have HBF := HB2
  obtain ⟨adl, hadl, _, z0, z1, z2⟩ := tok_cells' HR2.out k0 hk0l
  have Hadl := Lib.hid hadl
  clear hadl
  rw [hat.out.1] at z0 z1 z2
  have Z : Hid (∀ W, Dr w2 W → W.cell? (adl.add (k0 * 3)) = some (.int .u8 (((Lzp.one bs p).1 : Nat) : Int)) ∧ W.cell? ⟨(adl.add (k0 * 3)).block, (adl.add (k0 * 3)).off + 1, none⟩ = some (.int .i64 (((Lzp.one bs p).2.1 : Nat) : Int)) ∧ W.cell? ⟨(adl.add (k0 * 3)).block, (adl.add (k0 * 3)).off + 2, none⟩ = some (.int .i64 (((Lzp.one bs p).2.2 : Nat) : Int))) := fun W hW => by
    obtain ⟨m, rfl⟩ := hW
    exact ⟨z0, z1, z2⟩
  clear z0 z1 z2
  obtain rfl := Hadl.out
  have hk0l' : (k0 : Int) < l.length := by omega
  clear Hadl
  go_loopw [11] (fun v wr => ∃ k : Nat, v = .int .i64 k ∧ k ≤ 257 ∧ Hid (Dr w2 wr) ∧ Hid (Lzp.mlen bs q p = Lzp.mrun bs q p (257 - k) k)) (fun v _ => (257 - intOf v).toNat)
  case atStart => exact ⟨0, rfl, by omega, Dr.refl w2, rfl⟩
  case round =>
    obtain ⟨k, rfl, hk, HD, He⟩ := hrel
    have z := Z.out wr HD.out
    obtain ⟨z0, z1, z2⟩ := z
    replace z0 := Lib.hid z0; replace z1 := Lib.hid z1; replace z2 := Lib.hid z2
    have hreads : Reads wr w.heap.size 1 A n (bs.map B8) := HD.out.reads HR.out
    have r1 : IntKind.i64.wrap ((p : Int) + (k : Int)) = (p : Int) + (k : Int) := by rw [show ((p : Int) + (k : Int)) = ((p + k : Nat) : Int) by omega, IntKind.wrap_i64]; omega
    by_cases h257 : k < 257
    · have h257' : (k : Int) < 257 := by omega
      by_cases hend : p + k < n
      · obtain ⟨ad, rfl, hcell⟩ := reads_cells hreads (by omega)
        have c1 := hcell (q + k) (by rw [L.out]; omega)
        have c2 := hcell (p + k) (by rw [L.out]; omega)
        have e1 : (p : Int) + (k : Int) - (d : Int) = ((q + k : Nat) : Int) := by omega
        have r2 : IntKind.i64.wrap ((p : Int) + (k : Int) - (d : Int)) = (q : Int) + (k : Int) := by rw [e1, IntKind.wrap_i64]; omega
        have l1 : (p : Int) + (k : Int) < n := by omega
        have l2 : (q : Int) + (k : Int) < n := by omega
        have p1 : (0 : Int) ≤ (p : Int) + (k : Int) := by omega
        have p2 : (0 : Int) ≤ (q : Int) + (k : Int) := by omega
        have hqq := eq8 (bs.getD (q + k) 0) (bs.getD (p + k) 0)
        have Hok : Hid (Lzp.ok bs q p k = (bs.getD (q + k) 0 == bs.getD (p + k) 0)) := by
          unfold Lzp.ok; rw [L.out]; simp [hend, Hid]
        have Hs : Hid (Lzp.mrun bs q p (257 - k) k = if Lzp.ok bs q p k = true then Lzp.mrun bs q p (257 - (k + 1)) (k + 1) else k) := by
          obtain ⟨m, hm⟩ : ∃ m, 257 - k = m + 1 := ⟨256 - k, by omega⟩
          rw [hm, show 257 - (k + 1) = m by omega]; rfl
        generalize bs.getD (q + k) 0 = x at *
        generalize bs.getD (p + k) 0 = y at *
        clear hcell hreads e1
        cases hb : (x == y)
        · rw [hb] at hqq Hok
          have Hf : Hid (Lzp.mlen bs q p = k) := by
            rw [Hid, He.out, Hs.out, Hok.out]; rfl
          clear hb
          have Hb := Lib.hid (Lzp.best_max bs p (Lzp.win p) d hd1 HW.out)
          rw [show p - d = q by omega, Hf.out] at Hb
          by_cases h3 : 3 ≤ (Lzp.tok bs p).1
          · have ht : Hid (Lzp.one bs p = (0, (Lzp.tok bs p).1, (Lzp.tok bs p).2)) := by unfold Lzp.one; rw [if_pos h3]; rfl
            have y0 := z0.out; have y1 := z1.out; have y2 := z2.out
            rw [ht.out] at y0 y1 y2
            have b1 : k ≤ (Lzp.tok bs p).1 := Hb.out.1
            have b2 : k = (Lzp.tok bs p).1 → (Lzp.tok bs p).2 ≤ d := Hb.out.2
            generalize (Lzp.tok bs p).1 = t1 at *
            generalize (Lzp.tok bs p).2 = t2 at *
            clear Hb ht z0 z1 z2
            have hne : ((t1 : Int) == 0) = false := by rw [beq_eq_false_iff_ne]; omega
            by_cases hkt : k < t1
            · have hkt' : (k : Int) < t1 := by omega
              clear b2
              go_wp2_with fail
              go_quiet (fail)
              go_wp2_with fail
              go_ret
              exact ⟨rfl, HBF.out.trans ((HD.out.drewN _).below _)⟩
            · have hk1 : t1 = k := by omega
              subst hk1
              have hdt : (t2 : Int) ≤ (d : Int) := by have := b2 rfl; omega
              clear b2
              go_wp2_with fail
              go_quiet (fail)
              go_wp2_with fail
              go_ret
              exact ⟨rfl, HBF.out.trans ((HD.out.drewN _).below _)⟩
          · have ht : Hid (Lzp.one bs p = ((bs.getD p 0).toNat, 0, 0)) := by unfold Lzp.one; rw [if_neg h3]; rfl
            have y0 := z0.out; have y1 := z1.out; have y2 := z2.out
            rw [ht.out] at y0 y1 y2
            have b1 : k ≤ (Lzp.tok bs p).1 := Hb.out.1
            have hk3 : (k : Int) < 3 := by omega
            have cp := (reads_cells (HD.out.reads HR.out) (by omega : 0 < n))
            obtain ⟨adb, hadb, hcb⟩ := cp
            injection hadb with hadb
            subst hadb
            have cb := hcb p (by rw [L.out]; omega)
            generalize (bs.getD p 0).toNat = x at *
            clear Hb ht z0 z1 z2 hcb
            go_wp2_with fail
            go_quiet (fail)
            go_wp2_with fail
            go_quiet (fail)
            go_wp2_with fail
            go_ret
            exact ⟨rfl, HBF.out.trans (((HD.out.drewN _).drewN _).below _)⟩
        · rw [hb] at hqq Hok
          have Hf : Hid (Lzp.mlen bs q p = Lzp.mrun bs q p (257 - (k + 1)) (k + 1)) := by
            rw [Hid, He.out, Hs.out, Hok.out]; rfl
          clear hb
          go_wp2_with fail
          go_quiet (fail)
          go_wp2_with fail
          go_roundw
          case rel => exact ⟨k + 1, by go_num, by omega, HD.out.drewN _, Hf⟩
          case measure => simp [intOf]; omega
      · have hend' : decide ((p : Int) + (k : Int) < n) = false := by rw [decide_eq_false_iff_not]; omega
        have Hf : Hid (Lzp.mlen bs q p = k) := by
          rw [Hid, He.out]
          obtain ⟨m, hm⟩ : ∃ m, 257 - k = m + 1 := ⟨256 - k, by omega⟩
          rw [hm]
          show (if Lzp.ok bs q p k = true then _ else k) = k
          rw [if_neg (by unfold Lzp.ok; rw [L.out]; simp [hend])]
        obtain ⟨ad, rfl, hcell⟩ := reads_cells hreads (by omega)
        clear hreads hcell
        have Hb := Lib.hid (Lzp.best_max bs p (Lzp.win p) d hd1 HW.out)
        rw [show p - d = q by omega, Hf.out] at Hb
        by_cases h3 : 3 ≤ (Lzp.tok bs p).1
        · have ht : Hid (Lzp.one bs p = (0, (Lzp.tok bs p).1, (Lzp.tok bs p).2)) := by unfold Lzp.one; rw [if_pos h3]; rfl
          have y0 := z0.out; have y1 := z1.out; have y2 := z2.out
          rw [ht.out] at y0 y1 y2
          have b1 : k ≤ (Lzp.tok bs p).1 := Hb.out.1
          have b2 : k = (Lzp.tok bs p).1 → (Lzp.tok bs p).2 ≤ d := Hb.out.2
          generalize (Lzp.tok bs p).1 = t1 at *
          generalize (Lzp.tok bs p).2 = t2 at *
          clear Hb ht z0 z1 z2
          have hne : ((t1 : Int) == 0) = false := by rw [beq_eq_false_iff_ne]; omega
          by_cases hkt : k < t1
          · have hkt' : (k : Int) < t1 := by omega
            clear b2
            go_wp2_with fail
            go_quiet (fail)
            go_wp2_with fail
            go_ret
            exact ⟨rfl, HBF.out.trans ((HD.out.drewN _).below _)⟩
          · have hk1 : t1 = k := by omega
            subst hk1
            have hdt : (t2 : Int) ≤ (d : Int) := by have := b2 rfl; omega
            clear b2
            go_wp2_with fail
            go_quiet (fail)
            go_wp2_with fail
            go_ret
            exact ⟨rfl, HBF.out.trans ((HD.out.drewN _).below _)⟩
        · have ht : Hid (Lzp.one bs p = ((bs.getD p 0).toNat, 0, 0)) := by unfold Lzp.one; rw [if_neg h3]; rfl
          have y0 := z0.out; have y1 := z1.out; have y2 := z2.out
          rw [ht.out] at y0 y1 y2
          have b1 : k ≤ (Lzp.tok bs p).1 := Hb.out.1
          have hk3 : (k : Int) < 3 := by omega
          have cp := (reads_cells (HD.out.reads HR.out) (by omega : 0 < n))
          obtain ⟨adb, hadb, hcb⟩ := cp
          injection hadb with hadb
          subst hadb
          have cb := hcb p (by rw [L.out]; omega)
          generalize (bs.getD p 0).toNat = x at *
          clear Hb ht z0 z1 z2 hcb
          go_wp2_with fail
          go_quiet (fail)
          go_wp2_with fail
          go_quiet (fail)
          go_wp2_with fail
          go_ret
          exact ⟨rfl, HBF.out.trans (((HD.out.drewN _).drewN _).below _)⟩
    · have hk257 : k = 257 := by omega
      have Hf : Hid (Lzp.mlen bs q p = k) := by
        have h := He.out
        rw [h, hk257]; rfl
      have h257' : (257 : Int) ≤ k := by omega
      obtain ⟨ad, rfl, hcell⟩ := reads_cells hreads (by omega)
      clear hreads hcell
      have Hb := Lib.hid (Lzp.best_max bs p (Lzp.win p) d hd1 HW.out)
      rw [show p - d = q by omega, Hf.out] at Hb
      by_cases h3 : 3 ≤ (Lzp.tok bs p).1
      · have ht : Hid (Lzp.one bs p = (0, (Lzp.tok bs p).1, (Lzp.tok bs p).2)) := by unfold Lzp.one; rw [if_pos h3]; rfl
        have y0 := z0.out; have y1 := z1.out; have y2 := z2.out
        rw [ht.out] at y0 y1 y2
        have b1 : k ≤ (Lzp.tok bs p).1 := Hb.out.1
        have b2 : k = (Lzp.tok bs p).1 → (Lzp.tok bs p).2 ≤ d := Hb.out.2
        generalize (Lzp.tok bs p).1 = t1 at *
        generalize (Lzp.tok bs p).2 = t2 at *
        clear Hb ht z0 z1 z2
        have hne : ((t1 : Int) == 0) = false := by rw [beq_eq_false_iff_ne]; omega
        by_cases hkt : k < t1
        · have hkt' : (k : Int) < t1 := by omega
          clear b2
          go_wp2_with fail
          go_quiet (fail)
          go_wp2_with fail
          go_ret
          exact ⟨rfl, HBF.out.trans ((HD.out.drewN _).below _)⟩
        · have hk1 : t1 = k := by omega
          subst hk1
          have hdt : (t2 : Int) ≤ (d : Int) := by have := b2 rfl; omega
          clear b2
          go_wp2_with fail
          go_quiet (fail)
          go_wp2_with fail
          go_ret
          exact ⟨rfl, HBF.out.trans ((HD.out.drewN _).below _)⟩
      · exfalso
        have b1 : k ≤ (Lzp.tok bs p).1 := Hb.out.1
        omega
end Go.Proofs.Ytiakpffmjkkniaa
