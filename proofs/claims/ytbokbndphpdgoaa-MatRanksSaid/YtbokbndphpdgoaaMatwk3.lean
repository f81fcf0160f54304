/-
  A matrix whose rows are changed: scale: walked.
-/
import Derived.Test.YtbokbndphpdgoaaMatwk2
namespace Go.Proofs.Ytbokbndphpdgoaa
set_option linter.unusedSimpArgs false
set_option linter.unusedVariables false
open Go.RowKit

theorem set_cellsTo (R C i j : Nat) (f : Nat → Nat → UInt8) (v : UInt8) (hi : i < R) (hj : j < C) : (cellsTo C f (R * C)).set (i * C + j) v = cellsTo C (fun r t => if r = i ∧ t = j then v else f r t) (R * C) := by
  apply List.ext_getElem?
  intro t
  have hlt := row_lt hi hj
  rw [List.getElem?_set, cellsTo_len]
  by_cases ht : t < R * C
  · rw [cellsTo_get _ _ _ _ ht, cellsTo_get _ _ _ _ ht]
    by_cases e : i * C + j = t
    · rw [if_pos e, if_pos hlt, ← e, (div_row hj).1, (div_row hj).2, if_pos ⟨rfl, rfl⟩]
    · rw [if_neg e]
      have hne : ¬ (t / C = i ∧ t % C = j) := fun h => e (by
        have := Nat.div_add_mod t C
        rw [h.1, h.2, Nat.mul_comm] at this
        exact this)
      rw [if_neg hne]
  · rw [cellsTo_none _ _ _ _ ht, if_neg (by omega), cellsTo_none _ _ _ _ ht]

set_option maxRecDepth 100000 in
set_option maxHeartbeats 2000000 in
theorem scale_any {w : World} {base g o R C n k : Nat} {A : Option Addr} {f : Nat → Nat → UInt8} (h : Wk w base g o R C A n k f) (ho : o = 0 ∨ o = 3) (i : Nat) (c : UInt8) (hR : R ≤ 255) (hC : C ≤ 255) (hi : i < R) :
    Calls Try.prog 52 #[.pointer (some ⟨g, o, none⟩), .int .i64 i, .int .u8 (c.toNat : Int)] w fun e w' => e = .returned (.tuple #[]) ∧ Wk w' base g o R C A n k (Lin.scaleF i c f) ∧ w.grownBy w' (A.map (·.block)) := by
  have H := Lib.hid h
  have RI := Lib.hid (fun W f' (hW : Wk W base g o R C A n k f') => wrow_any hW ho i hR hC hi)
  have RW := Lib.hid (fun W => Gfb.row_any c.toNat W c.toNat_lt)
  have hsz : (Try.prog.info? 69).map (·.size) = some (Gfb.rowCells c.toNat).size := by rw [Gfb.rowCells_size]; exact (zero_of_info Gfb.info_arr).2
  replace hsz := Lib.hid hsz
  have OI := h.off hi
  replace OI := Lib.hid OI
  have HA := Lib.hid (fun a ha => (h.lt a ha).2)
  have HI := Lib.hid hi
  have HG : Hid (g < w.heap.size) := h.hg
  have LEN := Lib.hid h.len
  have hz := (zero_of_info Gfb.info_arr).1
  clear h hR
  go_enter Try.func52, Try.ntmps52
  go_wp2_with fail
  refine (RW.out _).mono ?_; rintro e w1 ⟨rfl, hB1⟩
  have H1 := Lib.hid (H.out.below hB1)
  have G1 := Lib.hid (grown_below hB1 (A.map (·.block)))
  have hw1 : w.heap.size ≤ w1.heap.size := hB1.size
  clear hB1
  go_wp2_with (refine wpList_store_box rfl 69 _ _ rfl w1.heap.size (Gfb.rowCells c.toNat) rfl rfl 69 Gfb.zc256 (Blk.new _ _ _) hsz.out (Gfb.zc256_size _) (Gfb.rowCells_one _) ?_; intro w2 hb2 hf2 hB2 hs2)
  have hb12 : Below w1.heap.size w1 w2 := hB2 _ _ ((Below.refl _ _).alloc (Nat.le_refl _) _) (Nat.le_refl _)
  have H2 := Lib.hid (H1.out.below hb12)
  have G2 := Lib.hid (grown_trans G1.out (grown_below hb12 (A.map (·.block))))
  replace hb2 := Lib.hid hb2
  clear hf2 hB2 hs2 hb12 H1 G1
  go_wp2_with fail
  refine (RI.out _ _ H2.out).mono ?_; rintro e w3 ⟨rfl, hB3⟩
  have H3 := Lib.hid (H2.out.below hB3)
  have G3 := Lib.hid (grown_trans G2.out (grown_below hB3 (A.map (·.block))))
  have Hb3 := Lib.hid (hb2.out.below hB3 hb2.out.lt)
  clear hB3 H2 G2 hb2
  generalize hg1 : w1.heap.size = g1 at *
  replace hg1 := Lib.hid hg1
  obtain ⟨Ac, hAc⟩ : ∃ Ac, Hid (cutA A k (i * C) 1 = Ac) := ⟨_, rfl⟩
  obtain ⟨kc, hkc⟩ : ∃ kc, Hid (k - i * C = kc) := ⟨_, rfl⟩
  rw [hAc.out, hkc.out]
  obtain ⟨cn, hcn⟩ : ∃ cn, Hid (c.toNat = cn) := ⟨_, rfl⟩
  rw [hcn.out] at Hb3
  rw [hcn.out]
  go_wp2_with fail
  go_loopw [17] (fun v17 wr => ∃ kk : Nat, v17 = .int .i64 kk ∧ kk ≤ C ∧ Hid (Wk wr base g o R C A n k (fun r t => if r = i ∧ t < kk then fm c (f r t) else f r t)) ∧ Hid (Blk wr g1 69 (Gfb.rowCells cn)) ∧ Hid (w.grownBy wr (A.map (·.block)))) (fun v17 _ => C - (intOf v17).toNat)
  case atStart => exact ⟨0, rfl, by omega, H3.out.eqf (fun r t _ _ => by simp), Hb3, G3⟩
  case round =>
    clear H3 Hb3 G3
    obtain ⟨kk, rfl, hkC, HW, Hb, HG2⟩ := hrel
    by_cases hlt : kk < C
    · have hlt' : (kk : Int) < (C : Int) := by omega
      obtain ⟨gA, hA⟩ : ∃ gA, A = some ⟨gA, 0, none⟩ := by
        rcases HW.out.own.2 with ⟨_, h0⟩ | ⟨g', cap, cur, hv, _⟩
        · have := OI.out; omega
        · injection hv with hA; exact ⟨g', hA⟩
      have hAc2 : Ac = some ⟨gA, i * C, none⟩ := by
        rw [← hAc.out, hA]
        unfold cutA
        rw [if_neg (by have := OI.out; have := LEN.out.2; omega), Nat.mul_one, Option.map_some, add_zero_off]
      obtain ⟨p, hp⟩ : ∃ p, p = i * C := ⟨_, rfl⟩
      rw [← hp] at hAc2
      have HO := Lib.hid HW.out.own
      rw [hA] at HO
      have hxl : p + kk < n := by have := OI.out; omega
      have hcell : wr.cell? ⟨gA, p + kk, none⟩ = some (.int .u8 ((f i kk).toNat : Int)) := by
        rw [HO.out.cellAt (p + kk) (by omega), List.getElem?_map, cellsTo_get _ _ _ _ (by rw [← LEN.out.1]; omega), hp, (div_row hlt).1, (div_row hlt).2]
        simp [B8]
      have hrow : wr.cell? ⟨g1, (f i kk).toNat, none⟩ = some (.int .u8 ((fm c (f i kk)).toNat : Int)) := by
        rw [Hb.out.cell, Gfb.rowCells_at _ _ (f i kk).toNat_lt, ← hcn.out, fm_toNat]
      have hfro : wr.frozen? ⟨gA, p + kk, none⟩ = false := HO.out.frozenAt _
      have bx : (f i kk).toNat < 256 := (f i kk).toNat_lt
      have hne1 : g1 ≠ gA := by
        have h1 : gA < w.heap.size := HA.out _ hA
        omega
      replace hA := Lib.hid hA
      subst hAc2
      replace hp := Lib.hid hp
      have hpb : p < 9223372036854775807 := by have := (own_cap HO.out); have := this.2; unfold maxLen at this; omega
      go_wp2_with fail
      go_roundw
      case rel =>
        obtain ⟨ho2, hg2⟩ := HO.out.stored (p + kk) (B8 (fm c (f i kk)))
        rw [← List.map_set, hp.out, set_cellsTo R C i kk _ _ HI.out hlt] at ho2
        rw [← hp.out] at ho2
        have hgA : wr.grownBy (wr.setCell ⟨gA, p + kk, none⟩ (B8 (fm c (f i kk)))) (A.map (·.block)) := by rw [hA.out]; exact hg2
        rw [← hA.out] at ho2
        refine ⟨kk + 1, by go_num, by omega, (HW.out.turn hgA ho2).eqf (fun r t _ _ => ?_), Hb.out.far (p := ⟨gA, p + kk, none⟩) (by show g1 ≠ gA; omega) _, grown_trans HG2.out hgA⟩
        by_cases h1 : r = i
        · subst h1
          by_cases h2 : t = kk
          · subst h2; simp
          · by_cases h3 : t < kk
            · rw [if_neg (by omega), if_pos ⟨rfl, h3⟩, if_pos ⟨rfl, by omega⟩]
            · rw [if_neg (by omega), if_neg (by omega), if_neg (by omega)]
        · rw [if_neg (by omega), if_neg (by omega), if_neg (by omega)]
      case measure => simp [intOf]; omega
    · have hge : (C : Int) ≤ kk := by omega
      go_wp2_with fail
      go_end0
      refine ⟨rfl, HW.out.eqf (fun r t _ ht => ?_), HG2.out⟩
      unfold Lin.scaleF
      by_cases h1 : r = i
      · rw [if_pos ⟨h1, by omega⟩, if_pos h1]
      · rw [if_neg (by omega), if_neg h1]
end Go.Proofs.Ytbokbndphpdgoaa
