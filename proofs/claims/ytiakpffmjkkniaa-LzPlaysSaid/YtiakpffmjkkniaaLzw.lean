/-
  key, alike and longest walked.
-/
import Derived.Test.YtiakpffmjkkniaaLzk
namespace Go.Proofs.Ytiakpffmjkkniaa
set_option linter.unusedSimpArgs false
set_option linter.unusedVariables false
open Go.RowKit Go.Maps

theorem getD_of {xs : List UInt8} {k : Nat} {b : UInt8} (h : xs[k]? = some b) : xs.getD k 0 = b := by
  rw [List.getD_eq_getElem?_getD, h]; rfl
theorem reads_cells {w : World} {B n : Nat} {A : Option Addr} {bs : List UInt8} (h : Reads w B 1 A n (bs.map B8)) (hn : 0 < n) : ∃ ad, A = some ad ∧ ∀ j, j < bs.length → w.cell? (ad.add j) = some (.int .u8 ((bs.getD j 0).toNat : Int)) := by
  obtain ⟨ad, hA, _, hc⟩ := h.2 hn
  exact ⟨ad, hA, fun j hj => hc j (B8 (bs.getD j 0)) (by rw [List.getElem?_map, List.getD_eq_getElem?_getD, List.getElem?_eq_getElem hj]; rfl)⟩
theorem info_3 : (Try.prog.info? 52).map (fun i => (i.zero, i.size)) = some (some (.agg #[.int .u8 0, .int .u8 0, .int .u8 0]), 3) := by kernel_rfl
theorem info_3s : (Try.prog.info? 52).map (·.size) = some 3 := by kernel_rfl

set_option maxRecDepth 100000 in
theorem key_any (A : Option Addr) (n c B i : Nat) (bs : List UInt8) (w : World) (h : Reads w B 1 A n (bs.map B8)) (hB : B ≤ w.heap.size) (hi : i + 3 ≤ n) (hn : n < 4611686018427387904) :
    Calls Try.prog 21 #[.slice A n c, .int .i64 i] w fun e w' => e = .returned (k3 (Lzp.key bs i)) ∧ Below w.heap.size w w' := by
  have hl := h.len
  have h' := h.alloc hB (.cells #[.int .u8 0, .int .u8 0, .int .u8 0] 52)
  obtain ⟨ad, rfl, hcell⟩ := reads_cells h' (by omega)
  have hz := (zero_of_info info_3).1
  have c0 := hcell i (by omega)
  have c1 := hcell (i + 1) (by omega)
  have c2 := hcell (i + 2) (by omega)
  have d1 : ad.add (i + 1) = ⟨ad.block, ad.off + (i + 1), none⟩ := by unfold Addr.add; simp
  have d2 : ad.add (i + 2) = ⟨ad.block, ad.off + (i + 2), none⟩ := by unfold Addr.add; simp
  have c1' := c1
  have c2' := c2
  rw [d1] at c1'
  rw [d2] at c2'
  clear d1 d2
  have l0 : (i : Int) < n := by omega
  have l1 : (i : Int) + 1 < n := by omega
  have l2 : (i : Int) + 2 < n := by omega
  have p1 : (0 : Int) ≤ (i : Int) + 1 := by omega
  have p2 : (0 : Int) ≤ (i : Int) + 2 := by omega
  have r1 : IntKind.i64.wrap ((i : Int) + 1) = (i : Int) + 1 := by rw [show ((i : Int) + 1) = ((i + 1 : Nat) : Int) by omega, IntKind.wrap_i64]; omega
  have r2 : IntKind.i64.wrap ((i : Int) + 2) = (i : Int) + 2 := by rw [show ((i : Int) + 2) = ((i + 2 : Nat) : Int) by omega, IntKind.wrap_i64]; omega
  have b0 := (bs.getD i 0).toNat_lt
  have b1 := (bs.getD (i + 1) 0).toNat_lt
  have b2 := (bs.getD (i + 2) 0).toNat_lt
  unfold Lzp.key k3 B8
  generalize (bs.getD i 0).toNat = x0 at *
  generalize (bs.getD (i + 1) 0).toNat = x1 at *
  generalize (bs.getD (i + 2) 0).toNat = x2 at *
  clear h hcell h'
  go_enter Try.func21, Try.ntmps21
  go_wp2_with fail
  have hB1 : Below w.heap.size w (w.alloc (.cells #[.int .u8 0, .int .u8 0, .int .u8 0] 52)) := (Below.refl _ _).alloc (Nat.le_refl _) _
  have hb : Blk (w.alloc (.cells #[.int .u8 0, .int .u8 0, .int .u8 0] 52)) w.heap.size 52 #[.int .u8 0, .int .u8 0, .int .u8 0] := Blk.new _ _ _
  generalize w.alloc (.cells #[.int .u8 0, .int .u8 0, .int .u8 0] 52) = w1 at *
  have z0 : w1.cell? ⟨w.heap.size, 0, none⟩ = some (.int .u8 0) := hb.cell 0
  have z1 : w1.cell? ⟨w.heap.size, 1, none⟩ = some (.int .u8 0) := hb.cell 1
  have z2 : w1.cell? ⟨w.heap.size, 2, none⟩ = some (.int .u8 0) := hb.cell 2
  have f0 := hb.frozen 0
  have f1 := hb.frozen 1
  have f2 := hb.frozen 2
  replace hb := Lib.hid hb; replace hB1 := Lib.hid hB1
  go_region
  go_wp2_with fail
  have hb' : Blk (((w1.drew.setCell ⟨w.heap.size, 0, none⟩ (.int .u8 (x0 : Int))).setCell ⟨w.heap.size, 1, none⟩ (.int .u8 (x1 : Int))).setCell ⟨w.heap.size, 2, none⟩ (.int .u8 (x2 : Int))) w.heap.size 52 #[.int .u8 (x0 : Int), .int .u8 (x1 : Int), .int .u8 (x2 : Int)] := ((hb.out.drew.set_ 0 _).set_ 1 _).set_ 2 _
  exact bodyPost_ret (results_cell_row rfl _ _ w.heap.size 52 #[.int .u8 (x0 : Int), .int .u8 (x1 : Int), .int .u8 (x2 : Int)] (0, 0) _ rfl hb' Try.underlying52 rfl info_3s) rfl ⟨rfl, ((hB1.out.drew.setCell (p := ⟨w.heap.size, 0, none⟩) (Nat.le_refl _) _).setCell (p := ⟨w.heap.size, 1, none⟩) (Nat.le_refl _) _).setCell (p := ⟨w.heap.size, 2, none⟩) (Nat.le_refl _) _⟩

/-- how many bytes are alike, walked -/
theorem eq8 (x y : UInt8) : ((x.toNat : Int) == (y.toNat : Int)) = (x == y) := by
  rw [Bool.eq_iff_iff, beq_iff_eq, beq_iff_eq]
  constructor
  · intro h; exact UInt8.toNat_inj.1 (by omega)
  · intro h; rw [h]
set_option maxRecDepth 100000 in
set_option maxHeartbeats 1000000 in
theorem alike_any (A : Option Addr) (n c B p i : Nat) (bs : List UInt8) (w : World) (h : Reads w B 1 A n (bs.map B8)) (hpi : p < i) (hi : i < n) (hn : n < 4611686018427387904) :
    Calls Try.prog 22 #[.slice A n c, .int .i64 p, .int .i64 i] w fun e w' => e = .returned (.int .i64 (Lzp.mlen bs p i)) ∧ Dr w w' := by
  have hl := h.len
  have H := Lib.hid h
  obtain ⟨ad, rfl, hcell⟩ := reads_cells h (by omega)
  clear hcell h
  go_enter Try.func22, Try.ntmps22
  go_wp2_with fail
  go_loopw [7] (fun v wr => ∃ k : Nat, v = .int .i64 k ∧ k ≤ 257 ∧ Hid (Dr w wr) ∧ Hid (Lzp.mlen bs p i = Lzp.mrun bs p i (257 - k) k)) (fun v _ => (257 - intOf v).toNat)
  case atStart => exact ⟨0, rfl, by omega, Dr.refl w, rfl⟩
  case round =>
    obtain ⟨k, rfl, hk, HD, He⟩ := hrel
    have hreads : Reads wr B 1 (some ad) n (bs.map B8) := HD.out.reads H.out
    by_cases h257 : k < 257
    · have h257' : (k : Int) < 257 := by omega
      by_cases hend : i + k < n
      · obtain ⟨ad', had, hcell⟩ := reads_cells hreads (by omega)
        injection had with had
        subst had
        have c1 := hcell (p + k) (by omega)
        have c2 := hcell (i + k) (by omega)
        have r1 : IntKind.i64.wrap ((i : Int) + (k : Int)) = (i : Int) + (k : Int) := by rw [show ((i : Int) + (k : Int)) = ((i + k : Nat) : Int) by omega, IntKind.wrap_i64]; omega
        have r2 : IntKind.i64.wrap ((p : Int) + (k : Int)) = (p : Int) + (k : Int) := by rw [show ((p : Int) + (k : Int)) = ((p + k : Nat) : Int) by omega, IntKind.wrap_i64]; omega
        have l1 : (i : Int) + (k : Int) < n := by omega
        have l2 : (p : Int) + (k : Int) < n := by omega
        have p1 : (0 : Int) ≤ (i : Int) + (k : Int) := by omega
        have p2 : (0 : Int) ≤ (p : Int) + (k : Int) := by omega
        have hq := eq8 (bs.getD (p + k) 0) (bs.getD (i + k) 0)
        have Hok : Hid (Lzp.ok bs p i k = (bs.getD (p + k) 0 == bs.getD (i + k) 0)) := by
          unfold Lzp.ok; rw [hl]; simp [hend, Hid]
        have Hs : Hid (Lzp.mrun bs p i (257 - k) k = if Lzp.ok bs p i k = true then Lzp.mrun bs p i (257 - (k + 1)) (k + 1) else k) := by
          obtain ⟨m, hm⟩ : ∃ m, 257 - k = m + 1 := ⟨256 - k, by omega⟩
          rw [hm, show 257 - (k + 1) = m by omega]; rfl
        generalize bs.getD (p + k) 0 = x at *
        generalize bs.getD (i + k) 0 = y at *
        clear hcell hreads
        cases hb : (x == y)
        · rw [hb] at hq Hok
          have Hf : Hid (Lzp.mlen bs p i = k) := by
            rw [Hid, He.out, Hs.out, Hok.out]; rfl
          clear hb
          go_wp2_with fail
          go_quiet (fail)
          go_wp2_with fail
          go_ret
          exact ⟨ret_int (by rw [Hf.out]), HD.out.drewN _⟩
        · rw [hb] at hq Hok
          have Hf : Hid (Lzp.mlen bs p i = Lzp.mrun bs p i (257 - (k + 1)) (k + 1)) := by
            rw [Hid, He.out, Hs.out, Hok.out]; rfl
          clear hb
          go_wp2_with fail
          go_quiet (fail)
          go_wp2_with fail
          go_roundw
          case rel => exact ⟨k + 1, by go_num, by omega, HD.out.drewN _, Hf⟩
          case measure => simp [intOf]; omega
      · have r1 : IntKind.i64.wrap ((i : Int) + (k : Int)) = (i : Int) + (k : Int) := by rw [show ((i : Int) + (k : Int)) = ((i + k : Nat) : Int) by omega, IntKind.wrap_i64]; omega
        have hend' : decide ((i : Int) + (k : Int) < n) = false := by rw [decide_eq_false_iff_not]; omega
        have Hf : Hid (Lzp.mlen bs p i = k) := by
          rw [Hid, He.out]
          obtain ⟨m, hm⟩ : ∃ m, 257 - k = m + 1 := ⟨256 - k, by omega⟩
          rw [hm]
          show (if Lzp.ok bs p i k = true then _ else k) = k
          rw [if_neg (by unfold Lzp.ok; rw [hl]; simp [hend])]
        go_wp2_with fail
        go_quiet (fail)
        go_wp2_with fail
        go_ret
        exact ⟨ret_int (by rw [Hf.out]), HD.out.drewN _⟩
    · obtain rfl : k = 257 := by omega
      have Hf : Hid (Lzp.mlen bs p i = 257) := He.out
      go_wp2_with fail
      go_quiet (fail)
      go_wp2_with fail
      go_ret
      exact ⟨ret_int (by rw [Hf.out]), HD.out.drewN _⟩
end Go.Proofs.Ytiakpffmjkkniaa
