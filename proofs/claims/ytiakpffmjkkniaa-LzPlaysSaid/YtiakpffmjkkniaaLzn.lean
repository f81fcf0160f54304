/-
  The law LzRuns: a byte that stands many times.
-/
import Derived.Test.YtiakpffmjkkniaaLzo
namespace Go.Proofs.Ytiakpffmjkkniaa
set_option linter.unusedSimpArgs false
set_option linter.unusedVariables false
open Go.RowKit Go.Maps

theorem info_u8 : (Try.prog.info? 5).map (fun i => (i.zero, i.size, i.bytes)) = some (some (.int .u8 0), 1, 1) := by kernel_rfl
theorem size1_pos (t : Nat × Nat × Nat) : 1 ≤ Lzp.size1 t := by unfold Lzp.size1; split <;> omega
theorem sizeT_ge (l : List (Nat × Nat × Nat)) : ∀ k, k ≤ l.length → k ≤ Lzp.sizeT (l.take k)
  | 0, _ => Nat.zero_le _
  | k+1, h => by
    have ih := sizeT_ge l k (by omega)
    have := size1_pos l[k]
    rw [List.take_add_one, List.getElem?_eq_getElem (by omega)]
    rw [show Lzp.sizeT (l.take k ++ (some l[k]).toList) = Lzp.sizeT (l.take k) + Lzp.size1 l[k] from Lzp.sizeT_snoc _ _]
    omega

set_option maxRecDepth 100000 in
set_option maxHeartbeats 4000000 in
theorem lzRuns_walk (cc nn : Nat) (w : World) (hc : cc < 256) (hnn : nn < 65536) :
    Calls Try.prog 5 #[.int .u8 cc, .int .u16 nn] w fun e w' => e = .returned (.bool true) ∧ Below w.heap.size w w' := by
  obtain ⟨i0, hi, hz0, hz1, hz2⟩ := info_parts info_u8
  replace hi := Lib.hid hi; replace hz0 := Lib.hid hz0; replace hz1 := Lib.hid hz1; replace hz2 := Lib.hid hz2
  have hz := (zero_of_info (show (Try.prog.info? 31).map (fun i => (i.zero, i.size)) = some (some (.agg #[.int .u8 0, .int .i64 0, .int .i64 0]), 3) by kernel_rfl)).1
  obtain ⟨m, hm, hml⟩ : ∃ k : Nat, (nn : Int) % 3000 = (k : Int) ∧ k < 3000 := ⟨nn % 3000, by omega, by omega⟩
  obtain ⟨b, hb⟩ : ∃ b : UInt8, cc = b.toNat := ⟨UInt8.ofNat cc, by rw [UInt8.toNat_ofNat']; omega⟩
  have Hb := Lib.hid hb
  clear hb
  go_enter Try.func5, Try.ntmps5
  go_wp2_with fail
  refine (alive_any _).mono ?_; rintro e w1 ⟨rfl, hB1⟩
  have HB1 := Lib.hid hB1
  clear hB1
  go_wp2_with fail
  try rw [hm]
  go_loopw [6, 7] (fun v6 v7 wr => ∃ (k c0 : Nat) (A0 : Option Addr), v6 = .slice A0 k c0 ∧ v7 = .int .i64 k ∧ k ≤ m ∧ Hid (Below w.heap.size w wr) ∧
      Hid (wr.ownsRow w.heap.size 5 1 (.slice A0 k c0) k ((List.replicate k b).map B8))) (fun _ v7 _ => m - (intOf v7).toNat)
  case atStart => exact ⟨0, 0, none, rfl, rfl, by omega, HB1, World.ownsRow_nil _ _ _ 1⟩
  case round =>
    obtain ⟨k, c0, A0, rfl, rfl, hk, HB, Ho⟩ := hrel
    by_cases hlt : k < m
    · have hlt' : (k : Int) < (m : Int) := by omega
      have hgs : w.heap.size ≤ wr.heap.size := HB.out.size
      go_wp2_with (at_builtin; refine wpList_append_any _ rfl (.tmp 22) (.tmp 24) 22 rfl w.heap.size 5 i0 (.int .u8 0) 1 1 Try.underlying22 hi.out hz0.out hz1.out hz2.out rfl (by omega) A0 k c0 _ rfl (Ho.out.alloc _) (wr.heap.size + 1) (some ⟨wr.heap.size, 0, none⟩) 1 1 [.int .u8 (cc : Int)] rfl (reads_one _ _ _) (one_one rfl) (by unfold maxLen; omega) (by omega) (Nat.le_trans hgs (by simp)) ?_; intro A3 c3 w3 ho3 hg3 _hs3; have HB3 := Lib.hid (below_app (HB.out.alloc hgs (.cells #[.int .u8 (cc : Int)] 5)) hg3 (Ho.out.alloc _) (Nat.le_trans hgs (by simp))); clear hg3 _hs3; replace ho3 := Lib.hid ho3)
      go_roundw
      case rel =>
        refine ⟨k + 1, c3, A3, rfl, by go_num, by omega, HB3, ?_⟩
        have h := ho3.out
        rw [List.replicate_succ', List.map_append]
        rw [Hb.out] at h
        exact h
      case measure => simp [intOf]; omega
    · obtain rfl : k = m := by omega
      have L : Hid ((List.replicate k b).length = k) := List.length_replicate
      have hcap := own_cap Ho.out
      obtain ⟨hcap1, hcap2⟩ := hcap
      have F1 := Lib.hid (find_any A0 k c0 wr.heap.size (List.replicate k b) wr (Reads.of_own Ho.out) (Nat.le_refl _) (by omega))
      have hlen : (Lzp.find (List.replicate k b)).length ≤ k := by have := Lzp.find_len (List.replicate k b); rw [L.out] at this; exact this
      have HAT := fun i h => Lib.hid (Lzp.find_at (List.replicate k b) i h)
      have HALL := Lib.hid (Lzp.find_all (List.replicate k b))
      generalize Lzp.find (List.replicate k b) = l at *
      go_wp2_with fail
      refine F1.out.mono ?_; rintro e w2 ⟨A2, c2, rfl, ho2, hB2⟩
      have HB2 := Lib.hid (HB.out.trans (hB2.mono HB.out.size))
      have HR2 := Lib.hid (Reads.of_own ho2)
      clear hB2 ho2 F1
      go_wp2_with fail
      go_loopw [9, 10] (fun v9 v10 wr => ∃ (i p : Nat), v9 = .int .i64 ((k - p : Nat) : Int) ∧ v10 = .int .i64 i ∧ i ≤ l.length ∧ p ≤ k ∧ Hid (p = Lzp.sizeT (l.take i)) ∧ Hid (Below w2.heap.size w2 wr)) (fun _ v10 _ => l.length - (intOf v10).toNat)
      case atStart => exact ⟨0, 0, rfl, rfl, by omega, by omega, rfl, Below.refl _ _⟩
      case round =>
        obtain ⟨i, p, rfl, rfl, hi, hpk, Hp, HBr⟩ := hrel
        by_cases hil : i < l.length
        · have hil' : (i : Int) < l.length := by omega
          have hat := (HAT i hil).out
          rw [← Hp.out] at hat
          have hpn : p < k := by have := hat.2; rw [L.out] at this; exact this
          have hro := Lzp.run_one b k p hpn
          have hnext : Hid (Lzp.sizeT (l.take (i + 1)) = p + Lzp.step (List.replicate k b) p) := by
            rw [List.take_add_one, List.getElem?_eq_getElem hil]
            rw [show Lzp.sizeT (l.take i ++ (some l[i]).toList) = Lzp.sizeT (l.take i) + Lzp.size1 l[i] from Lzp.sizeT_snoc _ _, ← Hp.out, hat.1, Lzp.one_size]; rfl
          have hip : i ≤ p := by rw [Hp.out]; exact sizeT_ge l i hi
          have hi0 : i = 0 → p = 0 := by intro h; rw [Hp.out, h]; rfl
          obtain ⟨ad, rfl, hadb, y0, y1, y2⟩ := tok_cells' (HR2.out.below HBr.out) i hil
          rw [hat.1] at y0 y1 y2
          have hadr : ad.block < wr.heap.size := Nat.lt_of_lt_of_le hadb HBr.out.size
          have hgr : w2.heap.size ≤ wr.heap.size := HBr.out.size
          obtain ⟨z, hz'⟩ : ∃ z, z = k - p := ⟨_, rfl⟩
          rw [← hz'] at hro
          rw [← hz']
          have hzp : z + p = k := by omega
          have hz1' : 1 ≤ z := by omega
          have Y : Hid (∀ o, (wr.alloc o).cell? (ad.add (i * 3)) = some (.int .u8 (((Lzp.one (List.replicate k b) p).1 : Nat) : Int)) ∧ (wr.alloc o).cell? ⟨(ad.add (i * 3)).block, (ad.add (i * 3)).off + 1, none⟩ = some (.int .i64 (((Lzp.one (List.replicate k b) p).2.1 : Nat) : Int)) ∧ (wr.alloc o).cell? ⟨(ad.add (i * 3)).block, (ad.add (i * 3)).off + 2, none⟩ = some (.int .i64 (((Lzp.one (List.replicate k b) p).2.2 : Nat) : Int))) := fun o => by
            have hB : Below wr.heap.size wr (wr.alloc o) := (Below.refl _ _).alloc (Nat.le_refl _) o
            have hbl : (ad.add (i * 3)).block < wr.heap.size := by rw [block_of_add]; exact hadr
            exact ⟨(hB.cell hbl).trans y0, (hB.cell (p := ⟨(ad.add (i * 3)).block, (ad.add (i * 3)).off + 1, none⟩) hbl).trans y1, (hB.cell (p := ⟨(ad.add (i * 3)).block, (ad.add (i * 3)).off + 2, none⟩) hbl).trans y2⟩
          clear y0 y1 y2 hz' hat
          by_cases hA : 1 ≤ p ∧ 3 ≤ z
          · rw [if_pos hA, if_pos hA] at hro
            obtain ⟨hr1, hr2⟩ := hro
            rw [hr1] at Y
            rw [hr2] at hnext
            clear hr1 hr2
            have hA1 : (0 : Int) < i := by
              rcases Nat.eq_zero_or_pos i with h | h
              · have := hi0 h; omega
              · omega
            have hA2 : (3 : Int) ≤ z := by omega
            by_cases h257 : 257 < z
            · have h257' : (257 : Int) < z := by omega
              rw [Nat.min_eq_left (by omega)] at Y hnext
              have y0 := fun o => (Y.out o).1
              have y1 := fun o => (Y.out o).2.1
              have y2 := fun o => (Y.out o).2.2
              clear Y
              go_wp2_with fail
              go_quiet (fail)
              go_wp2_with fail
              go_roundw
              case rel => exact ⟨i + 1, p + 257, (by rw [show k - (p + 257) = z - 257 by omega]; go_num), by go_num, by omega, by omega, hnext.out.symm, by
                refine below_drewN ?_ _
                repeat (with_reducible refine Below.setCell ?_ (by first | exact hgr | (simp; exact hgr)) _)
                exact HBr.out.alloc hgr _⟩
              case measure => simp [intOf]; omega
            · have h257' : (z : Int) ≤ 257 := by omega
              rw [Nat.min_eq_right (by omega)] at Y hnext
              have y0 := fun o => (Y.out o).1
              have y1 := fun o => (Y.out o).2.1
              have y2 := fun o => (Y.out o).2.2
              clear Y
              go_wp2_with fail
              go_quiet (fail)
              go_wp2_with fail
              go_roundw
              case rel => exact ⟨i + 1, p + z, (by rw [show k - (p + z) = z - z by omega]; go_num), by go_num, by omega, by omega, hnext.out.symm, by
                refine below_drewN ?_ _
                repeat (with_reducible refine Below.setCell ?_ (by first | exact hgr | (simp; exact hgr)) _)
                exact HBr.out.alloc hgr _⟩
              case measure => simp [intOf]; omega
          · rw [if_neg hA, if_neg hA] at hro
            obtain ⟨hr1, hr2⟩ := hro
            rw [hr1] at Y
            rw [hr2] at hnext
            rw [← Hb.out] at Y
            clear hr1 hr2
            by_cases hi00 : i = 0
            · have hp0 := hi0 hi00
              subst hi00
              have y0 : ∀ o, (wr.alloc o).cell? ad = some (.int .u8 (cc : Int)) := fun o => (Y.out o).1
              have y1 : ∀ o, (wr.alloc o).cell? ⟨ad.block, ad.off + 1, none⟩ = some (.int .i64 0) := fun o => (Y.out o).2.1
              have y2 : ∀ o, (wr.alloc o).cell? ⟨ad.block, ad.off + 2, none⟩ = some (.int .i64 0) := fun o => (Y.out o).2.2
              clear Y
              go_wp2_with fail
              go_quiet (fail)
              go_wp2_with fail
              go_roundw
              case rel => exact ⟨0 + 1, p + 1, (by rw [show k - (p + 1) = z - 1 by omega]; go_num), by go_num, by omega, by omega, hnext.out.symm, by
                refine below_drewN ?_ _
                repeat (with_reducible refine Below.setCell ?_ (by first | exact hgr | (simp; exact hgr)) _)
                exact HBr.out.alloc hgr _⟩
              case measure => simp [intOf]; omega
            · have hA1 : (0 : Int) < i := by omega
              have hA2 : (z : Int) < 3 := by
                have : 1 ≤ p := by omega
                omega
              have y0 := fun o => (Y.out o).1
              have y1 := fun o => (Y.out o).2.1
              have y2 := fun o => (Y.out o).2.2
              clear Y
              go_wp2_with fail
              go_quiet (fail)
              go_wp2_with fail
              go_roundw
              case rel => exact ⟨i + 1, p + 1, (by rw [show k - (p + 1) = z - 1 by omega]; go_num), by go_num, by omega, by omega, hnext.out.symm, by
                refine below_drewN ?_ _
                repeat (with_reducible refine Below.setCell ?_ (by first | exact hgr | (simp; exact hgr)) _)
                exact HBr.out.alloc hgr _⟩
              case measure => simp [intOf]; omega
        · have hil2 : i = l.length := by omega
          have hpk2 : p = k := by
            have h := HALL.out
            rw [L.out] at h
            rw [Hp.out, hil2, List.take_length]; exact h
          have hge : (l.length : Int) ≤ (i : Int) := by omega
          rw [hpk2, Nat.sub_self]
          go_wp2_with fail
          go_ret
          exact ⟨rfl, HB2.out.trans (HBr.out.mono (HB2.out.size))⟩
end Go.Proofs.Ytiakpffmjkkniaa
