/-
  The document's tokens of any bytes, walked: every place is looked at.
-/
import Derived.Test.YtiakpffmjkkniaaLzf
namespace Go.Proofs.Ytiakpffmjkkniaa
set_option linter.unusedSimpArgs false
set_option linter.unusedVariables false
open Go.RowKit Go.Maps

set_option maxRecDepth 100000 in
set_option maxHeartbeats 4000000 in
theorem refFind_any (A : Option Addr) (n c B : Nat) (bs : List UInt8) (w : World) (h : Reads w B 1 A n (bs.map B8)) (hB : B ≤ w.heap.size) (hn : n < 4294967296) :
    Calls Try.prog 12 #[.slice A n c] w fun e w' => ∃ A' c', e = .returned (.slice A' (Lzp.find bs).length c') ∧ w'.ownsRow w.heap.size 31 3 (.slice A' (Lzp.find bs).length c') (Lzp.find bs).length (toksC (Lzp.find bs)) ∧ Below w.heap.size w w' := by
  have hl := h.len
  have H := Lib.hid h
  have L := Lib.hid hl
  obtain ⟨i0, hin, hz0, hz1, hz2⟩ := info_parts info_tok
  replace hin := Lib.hid hin; replace hz0 := Lib.hid hz0; replace hz1 := Lib.hid hz1; replace hz2 := Lib.hid hz2
  have hz := (zero_of_info (show (Try.prog.info? 31).map (fun i => (i.zero, i.size)) = some (some (.agg #[.int .u8 0, .int .i64 0, .int .i64 0]), 3) by kernel_rfl)).1
  clear h hl
  go_enter Try.func12, Try.ntmps12
  go_wp2_with fail
  go_loopw [3, 4] (fun v3 v4 wr => ∃ (i co : Nat) (Ao : Option Addr) (done : List (Nat × Nat × Nat)), v3 = .slice Ao done.length co ∧ v4 = .int .i64 i ∧ i ≤ n ∧ done.length ≤ i ∧ Hid (done ++ Lzp.from_ bs i = Lzp.find bs) ∧ Hid (Below w.heap.size w wr) ∧ Hid (wr.ownsRow w.heap.size 31 3 (.slice Ao done.length co) done.length (toksC done))) (fun _ v4 _ => n - (intOf v4).toNat)
  case atStart => exact ⟨0, 0, none, [], rfl, rfl, by omega, Nat.le_refl _, rfl, Below.refl _ _, World.ownsRow_nil _ _ _ 3⟩
  case round =>
    obtain ⟨i, co, Ao, done, rfl, rfl, hi, hd, Hf, HB, HO⟩ := hrel
    by_cases hlt : i < n
    · have hlt' : (i : Int) < n := by omega
      go_wp2_with fail
      go_loopw [5, 6, 7] (fun v5 v6 v7 wr => ∃ (D n1 d1 : Nat), v5 = .int .i64 n1 ∧ v6 = .int .i64 d1 ∧ v7 = .int .i64 ((D + 1 : Nat) : Int) ∧ D ≤ i ∧ D ≤ 4095 ∧ n1 ≤ 257 ∧ Hid (Lzp.best bs i D = (n1, d1)) ∧ Hid (Below w.heap.size w wr) ∧ Hid (wr.ownsRow w.heap.size 31 3 (.slice Ao done.length co) done.length (toksC done))) (fun _ _ v7 _ => 4097 - (intOf v7).toNat)
      case atStart => exact ⟨0, 0, 0, rfl, rfl, rfl, by omega, by omega, by omega, rfl, HB, HO⟩
      case round =>
        obtain ⟨D, n1, d1, rfl, rfl, rfl, hDi, hD, hn1, Hb, HB, HO⟩ := hrel
        by_cases hgo : D + 1 ≤ 4095 ∧ D + 1 ≤ i
        · obtain ⟨hg1, hg2⟩ := hgo
          have hg1' : ((D + 1 : Nat) : Int) ≤ 4095 := by omega
          have hg2' : ((D + 1 : Nat) : Int) ≤ (i : Int) := by omega
          have Hb1 : Hid (Lzp.best bs i (D + 1) = if n1 < Lzp.mlen bs (i - (D + 1)) i then (Lzp.mlen bs (i - (D + 1)) i, D + 1) else (n1, d1)) := by
            show (if (Lzp.best bs i D).1 < Lzp.mlen bs (i - (D + 1)) i then _ else Lzp.best bs i D) = _
            rw [Hb.out]
          have hmle := Lzp.mlen_le bs (i - (D + 1)) i
          obtain ⟨p, hp⟩ : ∃ p, p = i - (D + 1) := ⟨_, rfl⟩
          rw [← hp] at Hb1 hmle
          obtain ⟨d, hdd⟩ : ∃ d, d = D + 1 := ⟨_, rfl⟩
          rw [← hdd] at hg1' hg2' Hb1
          rw [← hdd]
          have Hd := Lib.hid hdd
          have hpd : p + d = i := by omega
          have hd1 : 1 ≤ d ∧ d ≤ 4095 := by omega
          clear hp hdd
          go_wp2_with fail
          go_loopw [8] (fun v8 wr => ∃ k : Nat, v8 = .int .i64 k ∧ k ≤ 257 ∧ Hid (Lzp.mlen bs p i = Lzp.mrun bs p i (257 - k) k) ∧ Hid (Below w.heap.size w wr) ∧ Hid (wr.ownsRow w.heap.size 31 3 (.slice Ao done.length co) done.length (toksC done))) (fun v8 _ => 257 - (intOf v8).toNat)
          case atStart => exact ⟨0, rfl, by omega, rfl, HB, HO⟩
          case round =>
            obtain ⟨k, rfl, hk, He, HB, HO⟩ := hrel
            have hreads : Reads wr B 1 A n (bs.map B8) := H.out.below (HB.out.mono hB)
            by_cases h257 : k < 257
            · have h257' : (k : Int) < 257 := by omega
              have r1 : IntKind.i64.wrap ((i : Int) + (k : Int)) = (i : Int) + (k : Int) := by rw [show ((i : Int) + (k : Int)) = ((i + k : Nat) : Int) by omega, IntKind.wrap_i64]; omega
              by_cases hend : i + k < n
              · obtain ⟨ad, rfl, hcell⟩ := reads_cells hreads (by omega)
                have c1 := hcell (p + k) (by rw [L.out]; omega)
                have c2 := hcell (i + k) (by rw [L.out]; omega)
                have e1 : (i : Int) + (k : Int) - (d : Int) = ((p + k : Nat) : Int) := by omega
                have r2 : IntKind.i64.wrap ((i : Int) + (k : Int) - (d : Int)) = (p : Int) + (k : Int) := by rw [e1, IntKind.wrap_i64]; omega
                have l1 : (i : Int) + (k : Int) < n := by omega
                have l2 : (p : Int) + (k : Int) < n := by omega
                have p1 : (0 : Int) ≤ (i : Int) + (k : Int) := by omega
                have p2 : (0 : Int) ≤ (p : Int) + (k : Int) := by omega
                have hq := eq8 (bs.getD (p + k) 0) (bs.getD (i + k) 0)
                have Hok : Hid (Lzp.ok bs p i k = (bs.getD (p + k) 0 == bs.getD (i + k) 0)) := by
                  unfold Lzp.ok; rw [L.out]; simp [hend, Hid]
                have Hs : Hid (Lzp.mrun bs p i (257 - k) k = if Lzp.ok bs p i k = true then Lzp.mrun bs p i (257 - (k + 1)) (k + 1) else k) := by
                  obtain ⟨m, hm⟩ : ∃ m, 257 - k = m + 1 := ⟨256 - k, by omega⟩
                  rw [hm, show 257 - (k + 1) = m by omega]; rfl
                generalize bs.getD (p + k) 0 = x at *
                generalize bs.getD (i + k) 0 = y at *
                clear hcell hreads e1
                cases hb : (x == y)
                · rw [hb] at hq Hok
                  have Hf : Hid (Lzp.mlen bs p i = k) := by
                    rw [Hid, He.out, Hs.out, Hok.out]; rfl
                  clear hb
                  by_cases hk1 : n1 < k
                  · have hk1' : (n1 : Int) < k := by omega
                    have Hb2 : Hid (Lzp.best bs i (D + 1) = (k, D + 1)) := by
                      rw [Hid, ← Hd.out, Hb1.out, Hf.out, if_pos hk1]
                    clear Hb1
                    go_wp2_with fail
                    go_quiet (fail)
                    go_wp2_with fail
                    go_roundw
                    case rel => exact ⟨D + 1, k, D + 1, by go_num, by rw [Hd.out], by rw [Hd.out]; go_num, by have := Hd.out; omega, by have := Hd.out; omega, by omega, Hb2, below_drewN HB.out _, HO⟩
                    case measure => simp [intOf]; omega
                  · have hk1' : (k : Int) ≤ n1 := by omega
                    have Hb2 : Hid (Lzp.best bs i (D + 1) = (n1, d1)) := by
                      rw [Hid, ← Hd.out, Hb1.out, Hf.out, if_neg hk1]
                    clear Hb1
                    go_wp2_with fail
                    go_quiet (fail)
                    go_wp2_with fail
                    go_roundw
                    case rel => exact ⟨D + 1, n1, d1, rfl, rfl, by rw [Hd.out]; go_num, by have := Hd.out; omega, by have := Hd.out; omega, by omega, Hb2, below_drewN HB.out _, HO⟩
                    case measure => simp [intOf]; omega
                · rw [hb] at hq Hok
                  have Hf : Hid (Lzp.mlen bs p i = Lzp.mrun bs p i (257 - (k + 1)) (k + 1)) := by
                    rw [Hid, He.out, Hs.out, Hok.out]; rfl
                  clear hb
                  go_wp2_with fail
                  go_quiet (fail)
                  go_wp2_with fail
                  go_roundw
                  case rel => exact ⟨k + 1, by go_num, by omega, Hf, below_drewN HB.out _, HO⟩
                  case measure => simp [intOf]; omega
              · have hend' : decide ((i : Int) + (k : Int) < n) = false := by rw [decide_eq_false_iff_not]; omega
                have Hf : Hid (Lzp.mlen bs p i = k) := by
                  rw [Hid, He.out]
                  obtain ⟨m, hm⟩ : ∃ m, 257 - k = m + 1 := ⟨256 - k, by omega⟩
                  rw [hm]
                  show (if Lzp.ok bs p i k = true then _ else k) = k
                  rw [if_neg (by unfold Lzp.ok; rw [L.out]; simp [hend])]
                clear hreads
                by_cases hk1 : n1 < k
                · have hk1' : (n1 : Int) < k := by omega
                  have Hb2 : Hid (Lzp.best bs i (D + 1) = (k, D + 1)) := by
                    rw [Hid, ← Hd.out, Hb1.out, Hf.out, if_pos hk1]
                  clear Hb1
                  go_wp2_with fail
                  go_quiet (fail)
                  go_wp2_with fail
                  go_roundw
                  case rel => exact ⟨D + 1, k, D + 1, by go_num, by rw [Hd.out], by rw [Hd.out]; go_num, by have := Hd.out; omega, by have := Hd.out; omega, by omega, Hb2, below_drewN HB.out _, HO⟩
                  case measure => simp [intOf]; omega
                · have hk1' : (k : Int) ≤ n1 := by omega
                  have Hb2 : Hid (Lzp.best bs i (D + 1) = (n1, d1)) := by
                    rw [Hid, ← Hd.out, Hb1.out, Hf.out, if_neg hk1]
                  clear Hb1
                  go_wp2_with fail
                  go_quiet (fail)
                  go_wp2_with fail
                  go_roundw
                  case rel => exact ⟨D + 1, n1, d1, rfl, rfl, by rw [Hd.out]; go_num, by have := Hd.out; omega, by have := Hd.out; omega, by omega, Hb2, below_drewN HB.out _, HO⟩
                  case measure => simp [intOf]; omega
            · have hk257 : k = 257 := by omega
              have Hf : Hid (Lzp.mlen bs p i = k) := by
                have h := He.out
                rw [h, hk257]; rfl
              have h257' : (257 : Int) ≤ k := by omega
              clear hreads
              by_cases hk1 : n1 < k
              · have hk1' : (n1 : Int) < k := by omega
                have Hb2 : Hid (Lzp.best bs i (D + 1) = (k, D + 1)) := by
                  rw [Hid, ← Hd.out, Hb1.out, Hf.out, if_pos hk1]
                clear Hb1
                go_wp2_with fail
                go_quiet (fail)
                go_wp2_with fail
                go_roundw
                case rel => exact ⟨D + 1, k, D + 1, by go_num, by rw [Hd.out], by rw [Hd.out]; go_num, by have := Hd.out; omega, by have := Hd.out; omega, by omega, Hb2, below_drewN HB.out _, HO⟩
                case measure => simp [intOf]; omega
              · have hk1' : (k : Int) ≤ n1 := by omega
                have Hb2 : Hid (Lzp.best bs i (D + 1) = (n1, d1)) := by
                  rw [Hid, ← Hd.out, Hb1.out, Hf.out, if_neg hk1]
                clear Hb1
                go_wp2_with fail
                go_quiet (fail)
                go_wp2_with fail
                go_roundw
                case rel => exact ⟨D + 1, n1, d1, rfl, rfl, by rw [Hd.out]; go_num, by have := Hd.out; omega, by have := Hd.out; omega, by omega, Hb2, below_drewN HB.out _, HO⟩
                case measure => simp [intOf]; omega
        · have HD : Hid (D = Lzp.win i) := by unfold Lzp.win Hid; omega
          have Ht : Hid (Lzp.tok bs i = (n1, d1)) := by unfold Lzp.tok; rw [← HD.out]; exact Hb.out
          have hgo' : (4095 : Int) < ((D + 1 : Nat) : Int) ∨ (((D + 1 : Nat) : Int) ≤ 4095 ∧ (i : Int) < ((D + 1 : Nat) : Int)) := by omega
          have hgs : w.heap.size ≤ wr.heap.size := HB.out.size
          by_cases h3 : 3 ≤ n1
          · have h3' : (3 : Int) ≤ n1 := by omega
            have HS : Hid (Lzp.step bs i = n1) := by
              unfold Lzp.step; rw [Ht.out, if_pos h3]; rfl
            have H1 : Hid (Lzp.one bs i = (0, n1, d1)) := by
              unfold Lzp.one; rw [Ht.out, if_pos h3]; rfl
            have Hend : i + n1 ≤ n := by
              have h := Lzp.step_end bs i (by rw [L.out]; exact hlt)
              rw [HS.out, L.out] at h; exact h
            have Hdone : Hid ((done ++ [(0, n1, d1)]) ++ Lzp.from_ bs (i + n1) = Lzp.find bs) := by
              have h := Hf.out
              rw [Lzp.from_step bs i (by rw [L.out]; exact hlt), H1.out, HS.out] at h
              rw [List.append_assoc]; exact h
            have hs1 : 1 ≤ n1 := by omega
            clear Hf Hb Ht HD H1 HS
            rcases hgo' with hA | ⟨hA, hA2⟩
            all_goals
              go_wp2_with (at_builtin; refine wpList_append_any _ rfl (.tmp 58) (.tmp 62) 25 rfl w.heap.size 31 i0 (.agg #[.int .u8 0, .int .i64 0, .int .i64 0]) 3 24 Try.underlying25 hin.out hz0.out hz1.out hz2.out rfl (by omega) Ao done.length co _ rfl (HO.out.alloc _) (wr.heap.size + 1) (some ⟨wr.heap.size, 0, none⟩) 1 1 (tokC (0, n1, d1)) rfl (reads_tok _ (0, n1, d1) _) (tok_one _) (by unfold maxLen; omega) (by omega) (Nat.le_trans hgs (by simp)) ?_; intro A3 c3 w3 ho3 hg3 _hs3; have HB3 := Lib.hid (below_app (HB.out.alloc hgs (.cells (tokC (0, n1, d1)).toArray 31)) hg3 (HO.out.alloc _) (Nat.le_trans hgs (by simp))); clear hg3 _hs3; replace ho3 := Lib.hid ho3)
              go_roundw
              case rel =>
                refine ⟨i + n1, c3, A3, done ++ [(0, n1, d1)], by simp, by go_num, by omega, by simp; omega, Hdone, HB3, ?_⟩
                have h := ho3.out
                rw [← toksC_one, ← toksC_append] at h
                simpa [Hid] using h
              case measure => simp [intOf]; omega
          · have h3' : (n1 : Int) < 3 := by omega
            have hreads : Reads wr B 1 A n (bs.map B8) := H.out.below (HB.out.mono hB)
            obtain ⟨ad, rfl, hcell⟩ := reads_cells hreads (by omega)
            have cx := hcell i (by rw [L.out]; exact hlt)
            have hx := (bs.getD i 0).toNat_lt
            have HS : Hid (Lzp.step bs i = 1) := by
              unfold Lzp.step; rw [Ht.out, if_neg h3]; rfl
            have H1 : Hid (Lzp.one bs i = ((bs.getD i 0).toNat, 0, 0)) := by
              unfold Lzp.one; rw [Ht.out, if_neg h3]; rfl
            generalize (bs.getD i 0).toNat = x at *
            clear hcell hreads
            have Hend : i + 1 ≤ n := by
              have h := Lzp.step_end bs i (by rw [L.out]; exact hlt)
              rw [HS.out, L.out] at h; exact h
            have Hdone : Hid ((done ++ [(x, 0, 0)]) ++ Lzp.from_ bs (i + 1) = Lzp.find bs) := by
              have h := Hf.out
              rw [Lzp.from_step bs i (by rw [L.out]; exact hlt), H1.out, HS.out] at h
              rw [List.append_assoc]; exact h
            have hs1 : 1 ≤ 1 := by omega
            clear Hf Hb Ht HD H1 HS
            rcases hgo' with hA | ⟨hA, hA2⟩
            all_goals
              go_wp2_with (at_builtin; refine wpList_append_any _ rfl (.tmp 67) (.tmp 73) 25 rfl w.heap.size 31 i0 (.agg #[.int .u8 0, .int .i64 0, .int .i64 0]) 3 24 Try.underlying25 hin.out hz0.out hz1.out hz2.out rfl (by omega) Ao done.length co _ rfl (HO.out.alloc _) (wr.heap.size + 1) (some ⟨wr.heap.size, 0, none⟩) 1 1 (tokC (x, 0, 0)) rfl (reads_tok _ (x, 0, 0) _) (tok_one _) (by unfold maxLen; omega) (by omega) (Nat.le_trans hgs (by simp)) ?_; intro A3 c3 w3 ho3 hg3 _hs3; have HB3 := Lib.hid (below_app (HB.out.alloc hgs (.cells (tokC (x, 0, 0)).toArray 31)) hg3 (HO.out.alloc _) (Nat.le_trans hgs (by simp))); clear hg3 _hs3; replace ho3 := Lib.hid ho3)
              go_roundw
              case rel =>
                refine ⟨i + 1, c3, A3, done ++ [(x, 0, 0)], by simp, by go_num, by omega, by simp; omega, Hdone, HB3, ?_⟩
                have h := ho3.out
                rw [← toksC_one, ← toksC_append] at h
                simpa [Hid] using h
              case measure => simp [intOf]; omega
    · obtain rfl : i = n := by omega
      have He : Hid (done = Lzp.find bs) := by
        have h := Hf.out
        rw [Lzp.from_end bs i (by rw [L.out]; exact Nat.le_refl _), List.append_nil] at h
        exact h
      go_wp2_with fail
      go_ret
      have e := He.out
      subst e
      exact ⟨Ao, co, rfl, HO.out, HB.out⟩
end Go.Proofs.Ytiakpffmjkkniaa
