/-
  Texts put together: Mativ Mativ2.
-/
import Derived.Test.YtjbedcgacnnanaaDoorBv
import Derived.Test.YtjbedcgacnnanaaDoorBq
import Derived.Test.YtjbedcgacnnanaaDoorBa
namespace Go.Proofs.YtjbedcgacnnanaaDoor
set_option linter.unusedSimpArgs false
set_option linter.unusedVariables false
open Go.RowKit

/-- the value of a row -/
def rowV (C : Nat) (g : Nat → Nat × Nat) (i : Nat) : Value := .slice (some ⟨(g i).1, 0, none⟩) C (g i).2
/-- n rows of C bytes -/
structure RM (W : World) (base : Nat) (A : Option Addr) (n c C : Nat) (g : Nat → Nat × Nat) (F : Nat → Nat → UInt8) : Prop where
  out : W.ownsRow base 27 1 (.slice A n c) n ((List.range n).map (rowV C g))
  row : ∀ i, i < n → W.ownsRow base 5 1 (.slice (some ⟨(g i).1, 0, none⟩) C (g i).2) C ((rowF C (F i)).map B8)
  inj : ∀ i j, i < n → j < n → (g i).1 = (g j).1 → i = j
  bs : base ≤ W.heap.size
section
variable {W W' : World} {base n c C : Nat} {A : Option Addr} {g : Nat → Nat × Nat} {F F' : Nat → Nat → UInt8}
theorem RM.below (h : RM W base A n c C g F) (hB : Below W.heap.size W W') : RM W' base A n c C g F :=
  ⟨own_belowL h.out hB, fun i hi => own_belowL (h.row i hi) hB, h.inj, Nat.le_trans h.bs hB.size⟩
theorem RM.drew (h : RM W base A n c C g F) : RM W.drew base A n c C g F := ⟨h.out, h.row, h.inj, h.bs⟩
theorem RM.eqf (h : RM W base A n c C g F) (e : ∀ i j, i < n → j < C → F i j = F' i j) : RM W base A n c C g F' :=
  ⟨h.out, fun i hi => by
    have h1 : rowF C (F i) = rowF C (F' i) := List.map_congr_left fun j hj => e i j hi (List.mem_range.1 hj)
    rw [← h1]; exact h.row i hi, h.inj, h.bs⟩
theorem RM.nil (w : World) (base C : Nat) (g : Nat → Nat × Nat) (F : Nat → Nat → UInt8) (hb : base ≤ w.heap.size) : RM w base none 0 0 C g F :=
  ⟨World.ownsRow_nil _ _ _ 1, fun i hi => by omega, fun i j hi => by omega, hb⟩
theorem RM.blk (h : RM W base A n c C g F) {i : Nat} (hi : i < n) : ∃ cs, Blk W (g i).1 5 cs ∧ base ≤ (g i).1 := by
  rcases (h.row i hi).2 with ⟨h1, _⟩ | ⟨g', cap, cur, hv, hb, hg, _⟩
  · cases h1
  · injection hv with hA
    injection hA with hA
    injection hA with hA
    subst hA
    exact ⟨cur, hg, hb⟩
theorem RM.at_ (h : RM W base A n c C g F) {i j : Nat} (hi : i < n) (hj : j < C) : W.cell? ⟨(g i).1, j, none⟩ = some (.int .u8 ((F i j).toNat : Int)) := by
  rw [(h.row i hi).cellAt j (by omega), List.getElem?_map, rowF_get _ _ _ hj]; rfl
theorem RM.frozen (h : RM W base A n c C g F) {i : Nat} (hi : i < n) (j : Nat) : W.frozen? ⟨(g i).1, j, none⟩ = false := (h.row i hi).frozenAt j
theorem RM.slot (h : RM W base A n c C g F) (hn : 0 < n) : ∃ gA, A = some ⟨gA, 0, none⟩ ∧ (∀ i, i < n → W.cell? ⟨gA, i, none⟩ = some (rowV C g i)) ∧ (∀ i, W.frozen? ⟨gA, i, none⟩ = false) ∧ (∃ cs, Blk W gA 27 cs) ∧ base ≤ gA := by
  have h0 := h.out
  rcases h0.2 with ⟨_, h1⟩ | ⟨g', cap, cur, hv, hb, hg, _⟩
  · omega
  · injection hv with hA _ hc
    subst hA
    refine ⟨g', rfl, fun i hi => ?_, fun i => h0.frozenAt i, ⟨cur, hg⟩, hb⟩
    rw [h0.cellAt i (by omega), List.getElem?_map, List.getElem?_range hi]; rfl
/-- a byte is written -/
theorem RM.set_ (h : RM W base A n c C g F) {i j : Nat} (hi : i < n) (hj : j < C) (v : UInt8) : RM (W.setCell ⟨(g i).1, j, none⟩ (.int .u8 (v.toNat : Int))) base A n c C g (fun r t => if r = i ∧ t = j then v else F r t) := by
  obtain ⟨cs, hb, hbase⟩ := h.blk hi
  refine ⟨?_, fun k hk => ?_, h.inj, by simpa using h.bs⟩
  · refine ownsRow_setCell_other h.out (fun e => ?_) _
    have hne := own_blk_ne h.out hb (by decide)
    exact hne e
  · by_cases hki : k = i
    · subst hki
      have h1 := ((h.row k hk).stored j (B8 v)).1
      have e1 : ((rowF C (F k)).map B8).set j (B8 v) = (rowF C (fun t => if k = k ∧ t = j then v else F k t)).map B8 := by
        rw [← List.map_set]
        congr 1
        apply List.ext_getElem?
        intro t
        rw [List.getElem?_set, rowF_len]
        by_cases ht : t < C
        · rw [rowF_get _ _ _ ht, rowF_get _ _ _ ht]
          by_cases e : j = t
          · rw [if_pos e, if_pos hj, if_pos ⟨rfl, e.symm⟩]
          · rw [if_neg e, if_neg (fun h => e h.2.symm)]
        · rw [List.getElem?_eq_none (by rw [rowF_len]; omega), List.getElem?_eq_none (by rw [rowF_len]; omega), if_neg (by omega)]
      rw [e1] at h1
      exact h1
    · have h1 := ownsRow_setCell_other (a := ⟨(g i).1, j, none⟩) (h.row k hk) (fun e => hki (h.inj k i hk hi (by simpa [Value.ownBlock] using e))) (.int .u8 (v.toNat : Int))
      have e1 : rowF C (fun t => if k = i ∧ t = j then v else F k t) = rowF C (F k) := List.map_congr_left fun t _ => by rw [if_neg (fun h => hki h.1)]
      rw [e1]
      exact h1
theorem RM.frame {w : World} {i : Nat} (h : RM W base A n c C g F) (hi : i < n) (hB : Below base w W) (j : Nat) (u : Value) : Below base w (W.setCell ⟨(g i).1, j, none⟩ u) := hB.setCell (p := ⟨(g i).1, j, none⟩) (h.blk hi).choose_spec.2 u
end
/-- a row is appended -/
theorem RM.push {W W4 : World} {base n c C gr cr c3 : Nat} {A A3 : Option Addr} {g : Nat → Nat × Nat} {F : Nat → Nat → UInt8} {x : Nat → UInt8} (h : RM W base A n c C g F) (hr : W.ownsRow base 5 1 (.slice (some ⟨gr, 0, none⟩) C cr) C ((rowF C x).map B8)) (hnew : ∀ i, i < n → (g i).1 ≠ gr)
    (ho4 : W4.ownsRow base 27 1 (.slice A3 (n + 1) c3) (n + 1) ((List.range n).map (rowV C g) ++ [.slice (some ⟨gr, 0, none⟩) C cr])) (hg4 : W.grownBy W4 (A.map (·.block))) :
    RM W4 base A3 (n + 1) c3 C (fun i => if i = n then (gr, cr) else g i) (fun i j => if i = n then x j else F i j) := by
  have keep : ∀ (A' : Option Addr) (c' : Nat) (xs : List Value), W.ownsRow base 5 1 (.slice A' C c') C xs → W4.ownsRow base 5 1 (.slice A' C c') C xs := fun A' c' xs ho => by
    refine ownsRow_block ho (fun a ha => ?_)
    obtain ⟨cs, fr, hh⟩ := own_row ho a.block (by rw [ha]; rfl)
    refine hg4.block _ (lt_of_heap hh) (fun e => ?_)
    obtain ⟨cs2, fr2, hh2⟩ := own_row h.out a.block e.symm
    rw [hh] at hh2
    injection hh2 with hh2
    injection hh2 with _ ht
    exact absurd ht (by decide)
  refine ⟨?_, fun i hi => ?_, fun i j hi hj e => ?_, Nat.le_trans h.bs hg4.size⟩
  · have e1 : (List.range (n + 1)).map (rowV C (fun i => if i = n then (gr, cr) else g i)) = (List.range n).map (rowV C g) ++ [.slice (some ⟨gr, 0, none⟩) C cr] := by
      rw [List.range_succ, List.map_append]
      congr 1
      · apply List.map_congr_left
        intro i hi
        have := List.mem_range.1 hi
        unfold rowV
        simp [show i ≠ n by omega]
      · simp [rowV]
    rw [e1]; exact ho4
  · by_cases e : i = n
    · subst e
      simp only [if_true]
      exact keep _ _ _ hr
    · simp only [if_neg e]
      exact keep _ _ _ (h.row i (by omega))
  · by_cases e1 : i = n <;> by_cases e2 : j = n
    · omega
    · simp only [e1, if_true, if_neg e2] at e
      exact absurd e.symm (hnew j (by omega))
    · simp only [e2, if_true, if_neg e1] at e
      exact absurd e (hnew i (by omega))
    · simp only [if_neg e1, if_neg e2] at e
      exact h.inj i j (by omega) (by omega) e
/-- rows swapped -/
def swapG (i p : Nat) (g : Nat → Nat × Nat) (r : Nat) : Nat × Nat := if r = i then g p else if r = p then g i else g r
theorem RM.swap {W : World} {base n c C gA : Nat} {g : Nat → Nat × Nat} {F : Nat → Nat → UInt8} (h : RM W base (some ⟨gA, 0, none⟩) n c C g F) {i p : Nat} (hi : i < n) (hp : p < n) :
    RM ((W.setCell ⟨gA, i, none⟩ (rowV C g p)).setCell ⟨gA, p, none⟩ (rowV C g i)) base (some ⟨gA, 0, none⟩) n c C (swapG i p g) (Lin.swapF i p F) := by
  obtain ⟨gA', hA, -, -, ⟨cs, hbl⟩, hbA⟩ := h.slot (by omega)
  obtain rfl : gA = gA' := by
    injection hA with hA
    injection hA with hA
  have h1 := (h.out.stored i (rowV C g p)).1
  have h2 := (h1.stored p (rowV C g i)).1
  have hl : (((List.range n).map (rowV C g)).set i (rowV C g p)).set p (rowV C g i) = (List.range n).map (rowV C (swapG i p g)) := by
    apply List.ext_getElem?
    intro t
    rw [List.getElem?_set, List.length_set, List.getElem?_set, List.length_map, List.length_range, List.getElem?_map, List.getElem?_map]
    by_cases ht : t < n
    · rw [List.getElem?_range ht]
      unfold swapG rowV
      by_cases e1 : p = t
      · subst e1
        rw [if_pos rfl, if_pos hp]
        by_cases e2 : p = i
        · subst e2; simp
        · simp [e2]
      · rw [if_neg e1]
        by_cases e2 : i = t
        · subst e2
          rw [if_pos rfl, if_pos hi]; simp
        · rw [if_neg e2]
          simp [Ne.symm e1, Ne.symm e2]
    · have hn : (List.range n)[t]? = none := List.getElem?_eq_none (by rw [List.length_range]; omega)
      rw [hn, if_neg (by omega), if_neg (by omega)]; rfl
  rw [hl] at h2
  refine ⟨h2, fun k hk => ?_, fun k j hk hj e => ?_, by simpa using h.bs⟩
  · have hrow : ∀ r, r < n → ((W.setCell ⟨gA, i, none⟩ (rowV C g p)).setCell ⟨gA, p, none⟩ (rowV C g i)).ownsRow base 5 1 (.slice (some ⟨(g r).1, 0, none⟩) C (g r).2) C ((rowF C (F r)).map B8) := fun r hr => by
      have hne : (g r).1 ≠ gA := by
        obtain ⟨cs', hb', _⟩ := h.blk hr
        exact hb'.ne_ hbl (by decide)
      have a1 := ownsRow_setCell_other (a := ⟨gA, i, none⟩) (h.row r hr) (fun e => hne (by simpa [Value.ownBlock] using e)) (rowV C g p)
      exact ownsRow_setCell_other (a := ⟨gA, p, none⟩) a1 (fun e => hne (by simpa [Value.ownBlock] using e)) (rowV C g i)
    by_cases e1 : k = i
    · have := hrow p hp
      have ef : Lin.swapF i p F k = F p := by funext t; unfold Lin.swapF; rw [if_pos e1]
      have eg : swapG i p g k = g p := by unfold swapG; rw [if_pos e1]
      rw [ef, eg]; exact this
    · by_cases e2 : k = p
      · have := hrow i hi
        have ef : Lin.swapF i p F k = F i := by funext t; unfold Lin.swapF; rw [if_neg e1, if_pos e2]
        have eg : swapG i p g k = g i := by unfold swapG; rw [if_neg e1, if_pos e2]
        rw [ef, eg]; exact this
      · have := hrow k hk
        have ef : Lin.swapF i p F k = F k := by funext t; unfold Lin.swapF; rw [if_neg e1, if_neg e2]
        have eg : swapG i p g k = g k := by unfold swapG; rw [if_neg e1, if_neg e2]
        rw [ef, eg]; exact this
  · have hs : ∀ r, r < n → ∃ r', r' < n ∧ swapG i p g r = g r' ∧ r' = (if r = i then p else if r = p then i else r) := fun r hr => by
      unfold swapG
      by_cases e1 : r = i
      · exact ⟨p, hp, by rw [if_pos e1], by rw [if_pos e1]⟩
      · by_cases e2 : r = p
        · exact ⟨i, hi, by rw [if_neg e1, if_pos e2], by rw [if_neg e1, if_pos e2]⟩
        · exact ⟨r, hr, by rw [if_neg e1, if_neg e2], by rw [if_neg e1, if_neg e2]⟩
    obtain ⟨k', hk', e1, e1'⟩ := hs k hk
    obtain ⟨j', hj', e2, e2'⟩ := hs j hj
    rw [e1, e2] at e
    have := h.inj k' j' hk' hj' e
    rw [e1', e2'] at this
    repeat' split at this
    all_goals omega

/-- side by side -/
def joinF (n : Nat) (W B : Nat → Nat → UInt8) (r j : Nat) : UInt8 := if j < n then W r j else B r (j - n)
theorem step_join (n i p : Nat) (hi : i < n) (W B : Nat → Nat → UInt8) (r j : Nat) : Lin.stepW i i p (joinF n W B) (joinF n W B) r j = joinF n (Lin.stepW i i p W W) (Lin.stepW i i p W B) r j := by
  have e1 : ∀ r, Lin.swapF i p (joinF n W B) r i = Lin.swapF i p W r i := fun r => by
    unfold Lin.swapF joinF
    simp [hi]
  have e2 : ∀ r, Lin.scaleF i (fi (Lin.swapF i p W i i)) (Lin.swapF i p (joinF n W B)) r i = Lin.scaleF i (fi (Lin.swapF i p W i i)) (Lin.swapF i p W) r i := fun r => by
    unfold Lin.scaleF
    rw [e1]
  unfold Lin.stepW
  rw [e1]
  by_cases hj : j < n
  · unfold joinF Lin.clearF Lin.scaleF Lin.swapF
    simp [hj, hi]
  · unfold joinF Lin.clearF Lin.scaleF Lin.swapF
    simp [hj, hi]
theorem fx_comm' (a b : UInt8) : fm a b = fm b a := fm_comm a b
end Go.Proofs.YtjbedcgacnnanaaDoor

namespace Go.Proofs.YtjbedcgacnnanaaDoor
set_option linter.unusedSimpArgs false
set_option linter.unusedVariables false
open Go.RowKit

/-- the first j of a row times c -/
def scJ (i j : Nat) (c : UInt8) (F : Nat → Nat → UInt8) (r t : Nat) : UInt8 := if r = i ∧ t < j then fm (F r t) c else F r t
/-- d times the row i added to the first j of the row k -/
def adJ (k j : Nat) (d : UInt8) (i : Nat) (F : Nat → Nat → UInt8) (r t : Nat) : UInt8 := if r = k ∧ t < j then F r t ^^^ fm d (F i t) else F r t
theorem below_setA {base : Nat} {w W : World} (hB : Below base w W) {gA : Nat} (h : base ≤ gA) (u : Value) (i : Nat) : Below base w (W.setCell ⟨gA, i, none⟩ u) := hB.setCell (p := ⟨gA, i, none⟩) h u
theorem info_row : (Tryd.prog.info? 27).map (fun i => (i.zero, i.size, i.bytes)) = some (some (.slice none 0 0), 1, 24) := by kernel_rfl
theorem slice_one (A : Option Addr) (n c : Nat) : (Value.slice A n c).oneCell' = true := rfl

set_option maxRecDepth 100000 in
set_option maxHeartbeats 16000000 in
theorem refInverse_in (R : Nat) (A : Option Addr) (n k : Nat) (bs : List UInt8) (w : World) (hR : R ≤ 255) (hn : n = R * R) (h : Reads w w.heap.size 1 A n (bs.map B8)) :
    Calls Tryd.prog 53 #[.agg #[.int .i64 R, .int .i64 R, .slice A n k]] w (InvRet w R (Lin.inverse R (cellAt bs R))) := by
  have M1 := fun W => Lib.hid (refMay_any R R A n k W)
  unfold mC at M1
  have hm1 : Matp.may (R : Int) (R : Int) n = true := by
    unfold Matp.may; rw [hn, Int.natCast_mul]; simp; omega
  rw [hm1] at M1
  have hz := (zero_of_info info_m).1
  have hbl : bs.length = R * R := by have := h.len; omega
  have HR := Lib.hid (fun (W : World) (hB : Below w.heap.size w W) => (h.below hB).more hB.size)
  have IV := Lib.hid (fun W (a : UInt8) => refInv_any a.toNat W a.toNat_lt)
  have RMu := Lib.hid (fun W (a b : UInt8) => refMul8m a b W)
  obtain ⟨G, hG⟩ : ∃ G, Hid (Lin.inverse R (cellAt bs R) = G) := ⟨_, rfl⟩
  rw [hG.out]
  have HG0 : Hid (Lin.gaussGo R (R - 0) 0 (cellAt bs R) Lin.one = G) := hG
  obtain ⟨F0, hF0⟩ : ∃ F0, F0 = joinF R (cellAt bs R) Lin.one := ⟨_, rfl⟩
  have FA : Hid (∀ i j, i < R → j < R → ∀ b, bs[i * R + j]? = some b → F0 i j = b) := fun i j hi hj b hb => by
    rw [hF0]; unfold joinF cellAt
    rw [if_pos hj, List.getD_eq_getElem?_getD, hb]; rfl
  have FB : Hid (∀ i j, R ≤ j → F0 i j = if i = j - R then 1 else 0) := fun i j hj => by
    rw [hF0]; unfold joinF Lin.one
    rw [if_neg (by omega)]
  have FI : Hid (∀ i j, i < R → j < R → i * R + j < n) := fun i j hi hj => by rw [hn]; exact row_lt hi hj
  have HF0 := Lib.hid hF0
  obtain ⟨i0, hi, hz0, hz1, hz2⟩ := info_parts info_u8
  replace hi := Lib.hid hi; replace hz0 := Lib.hid hz0; replace hz1 := Lib.hid hz1; replace hz2 := Lib.hid hz2
  obtain ⟨i1, hi_, hy0, hy1, hy2⟩ := info_parts info_row
  replace hi_ := Lib.hid hi_; replace hy0 := Lib.hid hy0; replace hy1 := Lib.hid hy1; replace hy2 := Lib.hid hy2
  obtain ⟨R2, hR2⟩ : ∃ R2, R2 = 2 * R := ⟨_, rfl⟩
  have e2R : (2 : Int) * (R : Int) = (R2 : Int) := by omega
  have hR2b : R2 ≤ 510 := by omega
  have HR2 := Lib.hid hR2
  have hnb : n ≤ 65025 := by rw [hn]; exact rc_le hR hR
  clear hm1 hn h hbl hF0 hR2
  go_enter Tryd.func53, Tryd.ntmps53
  go_wp2_with fail
  obtain ⟨hb2, hb3, hB0⟩ := blk2m w 75 75 #[.int .i64 R, .int .i64 R, .slice A n k] #[.int .i64 0, .int .i64 0, .slice none 0 0]
  generalize (w.alloc (.cells #[.int .i64 R, .int .i64 R, .slice A n k] 75)).alloc (.cells #[.int .i64 0, .int .i64 0, .slice none 0 0] 75) = W0 at *
  have hg3 : w.heap.size < w.heap.size + 1 := by omega
  have hg3b : w.heap.size + 1 < W0.heap.size := hb3.lt
  have KB : Hid (∀ W, Below W0.heap.size W0 W → Below w.heap.size w W ∧ Blk W (w.heap.size + 1) 75 (mC 0 0 (.slice none 0 0))) := fun W hW => ⟨hB0.trans (hW.mono hB0.size), hb3.below hW hb3.lt⟩
  have C2 : Hid (∀ W, Below W0.heap.size W0 W → W.cell? ⟨w.heap.size, 0, none⟩ = some (.int .i64 R) ∧ W.cell? ⟨w.heap.size, 1, none⟩ = some (.int .i64 R) ∧ W.cell? ⟨w.heap.size, 2, none⟩ = some (.slice A n k)) := fun W hW => ⟨(hb2.below hW hb2.lt).cell 0, (hb2.below hW hb2.lt).cell 1, (hb2.below hW hb2.lt).cell 2⟩
  clear hb2 hb3 hB0
  generalize w.heap.size + 1 = g3 at *
  refine (M1 _).out.mono ?_; rintro e w1 ⟨rfl, hB1⟩
  obtain ⟨x0, x1, x2⟩ := C2.out w1 hB1
  have hw1 : W0.heap.size ≤ w1.heap.size := hB1.size
  replace hB1 := Lib.hid hB1
  go_wp2_with fail
  clear x0 x1 x2
  go_loopw [5, 6] (fun v5 v6 wr => ∃ (i c5 : Nat) (A5 : Option Addr) (g : Nat → Nat × Nat), v5 = .slice A5 i c5 ∧ v6 = .int .i64 i ∧ i ≤ R ∧ Hid (Below W0.heap.size W0 wr) ∧ Hid (RM wr W0.heap.size A5 i c5 R2 g F0)) (fun _ v6 _ => R - (intOf v6).toNat)
  case atStart => exact ⟨0, 0, none, fun _ => (0, 0), rfl, rfl, by omega, hB1, RM.nil _ _ _ _ _ hw1⟩
  case round =>
    clear hB1 hw1 w1
    obtain ⟨i, c5, A5, g, rfl, rfl, hiR, HB, HM⟩ := hrel
    by_cases hlt : i < R
    · have hlt' : (i : Int) < (R : Int) := by omega
      have hR0 : 0 < R2 := by have := HR2.out; omega
      go_wp2_with fail
      generalize hwA : wr = wA at *
      replace hwA := Lib.hid hwA
      go_loopw [7, 8] (fun v7 v8 wr => ∃ (j c7 : Nat) (A7 : Option Addr), v7 = .slice A7 j c7 ∧ v8 = .int .i64 j ∧ j ≤ R2 ∧ Hid (Below wA.heap.size wA wr) ∧ Hid (wr.ownsRow wA.heap.size 5 1 (.slice A7 j c7) j (((rowF R2 (F0 i)).take j).map B8))) (fun _ v8 _ => R2 - (intOf v8).toNat)
      case atStart => exact ⟨0, 0, none, rfl, rfl, by omega, Below.refl _ _, by rw [List.take_zero]; exact World.ownsRow_nil _ _ _ 1⟩
      case round =>
        obtain ⟨j, c7, A7, rfl, rfl, hjR, HBr, HO⟩ := hrel
        have HB2 := Lib.hid (below_then HB.out HBr.out)
        have hb1 : j + 1 ≤ maxLen := by unfold maxLen; omega
        have hb2 : (j + 1) * 1 ≤ 140737488355328 := by omega
        by_cases hjl : j < R2
        · have hjl' : (j : Int) < (R2 : Int) := by omega
          have TK : Hid (((rowF R2 (F0 i)).take (j + 1)).map B8 = ((rowF R2 (F0 i)).take j).map B8 ++ [.int .u8 ((F0 i j).toNat : Int)]) := by
            unfold Hid
            rw [List.take_add_one, rowF_get _ _ _ hjl]; simp [B8]
          by_cases hj1 : j < R
          · have hj1' : (j : Int) < (R : Int) := by omega
            have hidx := FI.out i j hlt hj1
            obtain ⟨ad, b, hA, hblk, hb, ec⟩ := (HR.out wr (KB.out wr HB2.out).1).byte (k := i * R + j) hidx
            subst hA
            have hFb := FA.out i j hlt hj1 b hb
            rw [hFb] at TK
            have u1 := b.toNat_lt
            obtain ⟨x0, x1, x2⟩ := C2.out wr HB2.out
            have hmul1 : (i : Int) * (R : Int) = ((i * R : Nat) : Int) := (Int.natCast_mul i R).symm
            generalize b.toNat = bn at *
            generalize i * R = q1 at *
            have hsum1 : (q1 : Int) + (j : Int) = ((q1 + j : Nat) : Int) := by omega
            generalize q1 + j = s1 at *
            have hs1 : (s1 : Int) < (n : Int) := by omega
            have hs10 : (0 : Int) ≤ (s1 : Int) := by omega
            clear hblk hb hFb
            go_wp2_with (at_builtin; refine wpList_append_any _ rfl (.tmp 61) (.tmp 63) 27 rfl wA.heap.size 5 i0 (.int .u8 0) 1 1 Tryd.underlying27 hi.out hz0.out hz1.out hz2.out rfl (by omega) A7 j c7 _ rfl (HO.out.alloc (.cells #[.int .u8 (bn : Int)] 5)) (wr.heap.size + 1) _ 1 1 _ rfl (reads_one wr _ _) (one_one rfl) hb1 hb2 (show wA.heap.size ≤ (wr.alloc (.cells #[.int .u8 (bn : Int)] 5)).heap.size from Nat.le_trans HBr.out.size (by simp)) ?_; intro A3 c3 w4 ho4 hgq _hsq; have hB4 : Below wA.heap.size wA w4 := below_app (HBr.out.alloc HBr.out.size (.cells #[.int .u8 (bn : Int)] 5)) hgq (HO.out.alloc (.cells #[.int .u8 (bn : Int)] 5)) (show wA.heap.size ≤ (wr.alloc (.cells #[.int .u8 (bn : Int)] 5)).heap.size from Nat.le_trans HBr.out.size (by simp)); replace ho4 := Lib.hid ho4; replace hB4 := Lib.hid hB4; clear hgq _hsq)
            go_roundw
            case rel => exact ⟨j + 1, c3, A3, rfl, by go_num, by omega, hB4, by rw [TK.out]; exact ho4.out⟩
            case measure => simp [intOf]; omega
          · have hj2 : (R : Int) ≤ (j : Int) := by omega
            have hsub : (j : Int) - (R : Int) = ((j - R : Nat) : Int) := by omega
            have hFb := FB.out i j (by omega)
            by_cases hji : i = j - R
            · rw [if_pos hji] at hFb
              rw [hFb] at TK
              have hji2 : ((j - R : Nat) : Int) = (i : Int) := by omega
              replace hji := Lib.hid hji
              replace hFb := Lib.hid hFb
              generalize j - R = jr at *
              go_wp2_with (at_builtin; refine wpList_append_any _ rfl (.tmp 61) (.tmp 63) 27 rfl wA.heap.size 5 i0 (.int .u8 0) 1 1 Tryd.underlying27 hi.out hz0.out hz1.out hz2.out rfl (by omega) A7 j c7 _ rfl (HO.out.alloc (.cells #[.int .u8 (1 : Int)] 5)) (wr.heap.size + 1) _ 1 1 _ rfl (reads_one wr _ _) (one_one rfl) hb1 hb2 (show wA.heap.size ≤ (wr.alloc (.cells #[.int .u8 (1 : Int)] 5)).heap.size from Nat.le_trans HBr.out.size (by simp)) ?_; intro A3 c3 w4 ho4 hgq _hsq; have hB4 : Below wA.heap.size wA w4 := below_app (HBr.out.alloc HBr.out.size (.cells #[.int .u8 (1 : Int)] 5)) hgq (HO.out.alloc (.cells #[.int .u8 (1 : Int)] 5)) (show wA.heap.size ≤ (wr.alloc (.cells #[.int .u8 (1 : Int)] 5)).heap.size from Nat.le_trans HBr.out.size (by simp)); replace ho4 := Lib.hid ho4; replace hB4 := Lib.hid hB4; clear hgq _hsq)
              go_roundw
              case rel => exact ⟨j + 1, c3, A3, rfl, by go_num, by omega, hB4, by rw [TK.out]; exact ho4.out⟩
              case measure => simp [intOf]; omega
            · rw [if_neg hji] at hFb
              rw [hFb] at TK
              have hji2 : ¬ ((j - R : Nat) : Int) = (i : Int) := by omega
              replace hFb := Lib.hid hFb
              generalize j - R = jr at *
              go_wp2_with (at_builtin; refine wpList_append_any _ rfl (.tmp 61) (.tmp 63) 27 rfl wA.heap.size 5 i0 (.int .u8 0) 1 1 Tryd.underlying27 hi.out hz0.out hz1.out hz2.out rfl (by omega) A7 j c7 _ rfl (HO.out.alloc (.cells #[.int .u8 (0 : Int)] 5)) (wr.heap.size + 1) _ 1 1 _ rfl (reads_one wr _ _) (one_one rfl) hb1 hb2 (show wA.heap.size ≤ (wr.alloc (.cells #[.int .u8 (0 : Int)] 5)).heap.size from Nat.le_trans HBr.out.size (by simp)) ?_; intro A3 c3 w4 ho4 hgq _hsq; have hB4 : Below wA.heap.size wA w4 := below_app (HBr.out.alloc HBr.out.size (.cells #[.int .u8 (0 : Int)] 5)) hgq (HO.out.alloc (.cells #[.int .u8 (0 : Int)] 5)) (show wA.heap.size ≤ (wr.alloc (.cells #[.int .u8 (0 : Int)] 5)).heap.size from Nat.le_trans HBr.out.size (by simp)); replace ho4 := Lib.hid ho4; replace hB4 := Lib.hid hB4; clear hgq _hsq)
              go_roundw
              case rel => exact ⟨j + 1, c3, A3, rfl, by go_num, by omega, hB4, by rw [TK.out]; exact ho4.out⟩
              case measure => simp [intOf]; omega
        · have hge : (R2 : Int) ≤ (j : Int) := by omega
          have hj2 : j = R2 := by omega
          subst hj2
          rw [List.take_of_length_le (by rw [rowF_len]; omega)] at HO
          obtain ⟨gr, hA7⟩ : ∃ gr, A7 = some ⟨gr, 0, none⟩ := by
            rcases HO.out.2 with ⟨_, h0⟩ | ⟨g', cap, cur, hv, _⟩
            · omega
            · injection hv with hA; exact ⟨g', hA⟩
          subst hA7
          have hM2 := Lib.hid (HM.out.below HBr.out)
          have hgr : wA.heap.size ≤ gr := (HO.out.lt gr rfl).1
          have hnew : Hid (∀ t, t < i → (g t).1 ≠ gr) := fun t ht => by
            obtain ⟨cs, hb, _⟩ := HM.out.blk ht
            have := hb.lt
            omega
          have HO2 := Lib.hid (own_base HO.out HM.out.bs)
          have hc1 : i + 1 ≤ maxLen := by unfold maxLen; omega
          have hc2 : (i + 1) * 24 ≤ 140737488355328 := by omega
          go_wp2_with (at_builtin; refine wpList_append_any _ rfl (.tmp 65) (.tmp 67) 55 rfl W0.heap.size 27 i1 (.slice none 0 0) 1 24 Tryd.underlying55 hi_.out hy0.out hy1.out hy2.out rfl (by omega) A5 i c5 _ rfl (hM2.out.out.alloc (.cells #[.slice (some ⟨gr, 0, none⟩) j c7] 27)) (wr.heap.size + 1) _ 1 1 _ rfl (reads_one wr _ _) (one_one rfl) hc1 hc2 (show W0.heap.size ≤ (wr.alloc (.cells #[.slice (some ⟨gr, 0, none⟩) j c7] 27)).heap.size from Nat.le_trans hM2.out.bs (by simp)) ?_; intro A3 c3 w4 ho4 hgq _hsq; have hB4 : Below W0.heap.size W0 w4 := below_app (HB2.out.alloc HB2.out.size (.cells #[.slice (some ⟨gr, 0, none⟩) j c7] 27)) hgq (hM2.out.out.alloc (.cells #[.slice (some ⟨gr, 0, none⟩) j c7] 27)) (show W0.heap.size ≤ (wr.alloc (.cells #[.slice (some ⟨gr, 0, none⟩) j c7] 27)).heap.size from Nat.le_trans hM2.out.bs (by simp)); have hP4 := (hM2.out.below ((Below.refl _ _).alloc (Nat.le_refl _) (.cells #[.slice (some ⟨gr, 0, none⟩) j c7] 27))).push (HO2.out.alloc _) hnew.out ho4 hgq; replace hB4 := Lib.hid hB4; replace hP4 := Lib.hid hP4; clear hgq _hsq ho4)
          go_roundw
          case rel =>
            refine ⟨i + 1, c3, A3, _, rfl, by go_num, by omega, hB4, hP4.out.eqf (fun r t hr ht => ?_)⟩
            show (if r = i then F0 i t else F0 r t) = F0 r t
            by_cases e : r = i
            · rw [if_pos e, e]
            · rw [if_neg e]
          case measure => simp [intOf]; omega
    · have hge : (R : Int) ≤ (i : Int) := by omega
      obtain rfl : i = R := by omega
      clear FA FB FI
      rw [HF0.out] at HM
      go_wp2_with fail
      go_loopw [10] (fun v10 wr => ∃ (i2 : Nat) (g : Nat → Nat × Nat) (W B : Nat → Nat → UInt8), v10 = .int .i64 i2 ∧ i2 ≤ i ∧ Hid (Below W0.heap.size W0 wr) ∧ Hid (RM wr W0.heap.size A5 i c5 R2 g (joinF i W B)) ∧ Hid (Lin.gaussGo i (i - i2) i2 W B = G)) (fun v10 _ => i - (intOf v10).toNat)
      case atStart => exact ⟨0, g, _, _, rfl, by omega, HB, HM, HG0⟩
      case round =>
        clear HB HM
        obtain ⟨i2, g, W, B, rfl, hi2, HB, HM, HG⟩ := hrel
        by_cases hlt2 : i2 < i
        · have hlt2' : (i2 : Int) < (i : Int) := by omega
          have hP := Lin.pivot_spec (fun t => W t i2) (R := i) (at_ := i2) (by omega)
          have HST := gauss_step (W := W) (B := B) hlt2
          obtain ⟨p, hp⟩ : ∃ p, Lin.pivot (fun t => W t i2) i i2 = p := ⟨_, rfl⟩
          rw [hp] at hP HST
          obtain ⟨p1, p2, p3, p4⟩ := hP
          replace p3 := Lib.hid p3; replace p4 := Lib.hid p4; replace HST := Lib.hid HST
          clear hp
          have hiR2 : i2 < R2 := by have := HR2.out; omega
          have JW : Hid (∀ r, joinF i W B r i2 = W r i2) := fun r => by unfold joinF; rw [if_pos hlt2]
          go_wp2_with fail
          go_loopw [11] (fun v11 wr => ∃ (q : Nat), v11 = .int .i64 q ∧ i2 ≤ q ∧ q ≤ p ∧ Hid (Below W0.heap.size W0 wr) ∧ Hid (RM wr W0.heap.size A5 i c5 R2 g (joinF i W B))) (fun v11 _ => p - (intOf v11).toNat)
          case atStart => exact ⟨i2, rfl, by omega, p1, HB, HM⟩
          case round =>
            clear HB HM
            obtain ⟨q, rfl, hq1, hq2, HB, HM⟩ := hrel
            obtain ⟨gA, hgA, hsl, hfr, -, hbA⟩ := HM.out.slot (by omega)
            subst hgA
            by_cases hqp : q < p
            · have hqi : q < i := by omega
              have hqi' : (q : Int) < (i : Int) := by omega
              have cs := hsl q hqi
              unfold rowV at cs
              have cv := HM.out.at_ hqi hiR2
              have hz0 : W q i2 = 0 := p3.out q hq1 hqp
              rw [JW.out, hz0] at cv
              clear hsl hfr
              go_wp2_with fail
              go_roundw
              case rel => exact ⟨q + 1, by go_num, by omega, by omega, HB, HM⟩
              case measure => simp [intOf]; omega
            · obtain rfl : q = p := by omega
              by_cases hqi : q < i
              · have hqi' : (q : Int) < (i : Int) := by omega
                have hne : ¬ (q : Int) = (i : Int) := by omega
                have cs := hsl q hqi
                unfold rowV at cs
                have cv := HM.out.at_ hqi hiR2
                have hz0 : W q i2 ≠ 0 := p4.out hqi
                have hnz : ¬ ((W q i2).toNat : Int) = 0 := fun e => hz0 (u8_ext (show (W q i2).toNat = 0 by omega))
                rw [JW.out] at cv
                have ci := hsl i2 hlt2
                unfold rowV at ci
                replace hz0 := Lib.hid hz0
                generalize (W q i2).toNat = wn at *
                have ST := (HM.out.out.stored i2 (rowV R2 g q)).1
                have s1 : wr.frozen? ⟨gA, q, none⟩ = false := hfr q
                obtain ⟨sv, s2⟩ : ∃ sv, (wr.setCell ⟨gA, i2, none⟩ (.slice (some ⟨(g q).1, 0, none⟩) R2 (g q).2)).cell? ⟨gA, q, none⟩ = some sv := by
                  have h1 := ST.cellAt q (by omega)
                  have hl := ST.1
                  exact ⟨_, h1.trans (List.getElem?_eq_getElem (by omega))⟩
                have s3 : wr.frozen? ⟨gA, i2, none⟩ = false := hfr i2
                have HMs := Lib.hid (HM.out.swap hlt2 hqi).drew
                have HBs := Lib.hid (below_setA (below_setA HB.out hbA (rowV R2 g q) i2) hbA (rowV R2 g i2) q).drew
                unfold rowV at HMs HBs
                clear hsl hfr ST
                go_wp2_with fail
                refine Reg2.region_E 12 (fun W => W.cell? ⟨gA, i2, none⟩ = some (.slice (some ⟨(g i2).1, 0, none⟩) R2 (g i2).2) ∧ W.cell? ⟨gA, q, none⟩ = some (.slice (some ⟨(g q).1, 0, none⟩) R2 (g q).2)) (by kernel_rfl) ⟨ci, cs⟩ (fun hHeld => ?_)
                refine Reg2.freed 0 (v := ?_) rfl (by kernel_rfl) (by kernel_rfl) (by kernel_rfl) (fun _ _ _ h => h) (by rfl) ?_ ?_
                rotate_left
                · (intro W; go_simp; first | done | with_reducible rfl)
                try simp only [Act.put, List.setIfInBounds_toArray, List.set_cons_zero, List.set_cons_succ]
                refine Reg2.freed 1 (v := ?_) rfl (by kernel_rfl) (by kernel_rfl) (by kernel_rfl) (fun _ _ _ h => h) (by rfl) ?_ ?_
                rotate_left
                · (intro W; go_simp; first | done | with_reducible rfl)
                try simp only [Act.put, List.setIfInBounds_toArray, List.set_cons_zero, List.set_cons_succ]
                refine Reg2.freed 2 (v := ?_) rfl (by kernel_rfl) (by kernel_rfl) (by kernel_rfl) (fun _ _ _ h => h) (by rfl) ?_ ?_
                rotate_left
                · (intro W; go_simp; first | done | with_reducible rfl)
                try simp only [Act.put, List.setIfInBounds_toArray, List.set_cons_zero, List.set_cons_succ]
                refine Reg2.freed 3 (v := ?_) rfl (by kernel_rfl) (by kernel_rfl) (by kernel_rfl) (fun _ _ _ h => h) (by rfl) ?_ ?_
                rotate_left
                · (intro W; go_simp; first | done | with_reducible rfl)
                try simp only [Act.put, List.setIfInBounds_toArray, List.set_cons_zero, List.set_cons_succ]
                refine Reg2.freed 4 (v := ?_) rfl (by kernel_rfl) (by kernel_rfl) (by kernel_rfl) (fun _ _ _ h => h) (by rfl) ?_ ?_
                rotate_left
                · (intro W; go_simp; first | done | with_reducible rfl)
                try simp only [Act.put, List.setIfInBounds_toArray, List.set_cons_zero, List.set_cons_succ]
                refine Reg2.freed 5 (v := ?_) rfl (by kernel_rfl) (by kernel_rfl) (by kernel_rfl) (fun _ _ _ h => h) (by rfl) ?_ ?_
                rotate_left
                · (intro W; go_simp; first | done | with_reducible rfl)
                try simp only [Act.put, List.setIfInBounds_toArray, List.set_cons_zero, List.set_cons_succ]
                refine Reg2.freed 6 (v := ?_) rfl (by kernel_rfl) (by kernel_rfl) (by kernel_rfl) (fun _ _ _ h => h) (by rfl) ?_ ?_
                rotate_left
                · (intro W; go_simp; first | done | with_reducible rfl)
                try simp only [Act.put, List.setIfInBounds_toArray, List.set_cons_zero, List.set_cons_succ]
                refine Reg2.took 7 (v := ?_) rfl (by kernel_rfl) (by kernel_rfl) (by kernel_rfl) (by kernel_rfl) (fun _ _ _ h => h) (by rfl) (by assumption) ?_ ?_
                rotate_left
                · (intro W hSw; (try dsimp only at hSw); go_simp; first | done | with_reducible rfl)
                try simp only [Act.put, List.setIfInBounds_toArray, List.set_cons_zero, List.set_cons_succ]
                refine Reg2.freed 8 (v := ?_) rfl (by kernel_rfl) (by kernel_rfl) (by kernel_rfl) (fun _ _ _ h => h) (by rfl) ?_ ?_
                rotate_left
                · (intro W; go_simp; first | done | with_reducible rfl)
                try simp only [Act.put, List.setIfInBounds_toArray, List.set_cons_zero, List.set_cons_succ]
                refine Reg2.freed 9 (v := ?_) rfl (by kernel_rfl) (by kernel_rfl) (by kernel_rfl) (fun _ _ _ h => h) (by rfl) ?_ ?_
                rotate_left
                · (intro W; go_simp; first | done | with_reducible rfl)
                try simp only [Act.put, List.setIfInBounds_toArray, List.set_cons_zero, List.set_cons_succ]
                refine Reg2.freed 10 (v := ?_) rfl (by kernel_rfl) (by kernel_rfl) (by kernel_rfl) (fun _ _ _ h => h) (by rfl) ?_ ?_
                rotate_left
                · (intro W; go_simp; first | done | with_reducible rfl)
                try simp only [Act.put, List.setIfInBounds_toArray, List.set_cons_zero, List.set_cons_succ]
                refine Reg2.took 11 (v := ?_) rfl (by kernel_rfl) (by kernel_rfl) (by kernel_rfl) (by kernel_rfl) (fun _ _ _ h => h) (by rfl) (by assumption) ?_ ?_
                rotate_left
                · (intro W hSw; (try dsimp only at hSw); go_simp; first | done | with_reducible rfl)
                try simp only [Act.put, List.setIfInBounds_toArray, List.set_cons_zero, List.set_cons_succ]
                refine Reg2.lately 12 rfl (by kernel_rfl) (by decide) (by rfl) (fun K hK => ?_)
                go_simp
                refine hK.out _ _ ?_
                clear hK K
                try simp only [Act.put, List.setIfInBounds_toArray, List.set_cons_zero, List.set_cons_succ]
                refine Reg2.lately 13 rfl (by kernel_rfl) (by decide) (by rfl) (fun K hK => ?_)
                go_simp
                refine hK.out _ _ ?_
                clear hK K
                try simp only [Act.put, List.setIfInBounds_toArray, List.set_cons_zero, List.set_cons_succ]
                refine Reg2.lately 14 rfl (by kernel_rfl) (by decide) (by rfl) (fun K hK => ?_)
                go_simp
                refine hK.out _ _ ?_
                clear hK K
                try simp only [Act.put, List.setIfInBounds_toArray, List.set_cons_zero, List.set_cons_succ]
                refine Reg2.lately 15 rfl (by kernel_rfl) (by decide) (by rfl) (fun K hK => ?_)
                go_simp
                refine hK.out _ _ ?_
                clear hK K
                try simp only [Act.put, List.setIfInBounds_toArray, List.set_cons_zero, List.set_cons_succ]
                refine Reg2.allDone (by kernel_rfl) ?_ _
                clear hHeld s1 s2 s3 ci cs cv
                generalize ((wr.setCell ⟨gA, i2, none⟩ (.slice (some ⟨(g q).1, 0, none⟩) R2 (g q).2)).setCell ⟨gA, q, none⟩ (.slice (some ⟨(g i2).1, 0, none⟩) R2 (g i2).2)).drew = ws at *
                generalize swapG i2 q g = g2 at *
                obtain ⟨F1, hF1⟩ : ∃ F1, Hid (Lin.swapF i2 q (joinF i W B) = F1) := ⟨_, rfl⟩
                rw [hF1.out] at HMs
                obtain ⟨gA', hgA', hsl, -, -, -⟩ := HMs.out.slot (by omega)
                obtain rfl : gA = gA' := by
                  injection hgA' with h1
                  injection h1 with h1
                have c1 := hsl i2 hlt2
                unfold rowV at c1
                have c2 := HMs.out.at_ hlt2 hiR2
                obtain ⟨a0, ha0⟩ : ∃ a0, Hid (F1 i2 i2 = a0) := ⟨_, rfl⟩
                rw [ha0.out] at c2
                have IVa := IV.out
                have IVa := Lib.hid (fun W => IVa W a0)
                rw [← fi_toNat] at IVa
                have hx8 := a0.toNat_lt
                have hy8 := (fi a0).toNat_lt
                clear hsl hgA' HM HB
                go_wp2_with fail
                refine (IVa.out _).mono ?_; rintro e w' ⟨rfl, rfl⟩
                clear IVa c1 c2
                go_wp2_with fail
                have hfi : Hid (fi a0 = fi a0) := rfl
                obtain ⟨cc, hcc⟩ : ∃ cc, Hid (fi a0 = cc) := ⟨_, rfl⟩
                rw [hcc.out] at hy8
                rw [hcc.out]
                go_loopw [14] (fun v14 wr => ∃ (j : Nat), v14 = .int .i64 j ∧ j ≤ R2 ∧ Hid (Below W0.heap.size W0 wr) ∧ Hid (RM wr W0.heap.size (some ⟨gA, 0, none⟩) i c5 R2 g2 (scJ i2 j cc F1))) (fun v14 _ => R2 - (intOf v14).toNat)
                case atStart => exact ⟨0, rfl, by omega, HBs, HMs.out.eqf (fun r t _ _ => by unfold scJ; rw [if_neg (by omega)])⟩
                case round =>
                  clear HBs HMs
                  obtain ⟨j, rfl, hjR, HB, HM⟩ := hrel
                  by_cases hjl : j < R2
                  · have hjl' : (j : Int) < (R2 : Int) := by omega
                    obtain ⟨gA', hgA', hsl, -, -, -⟩ := HM.out.slot (by omega)
                    obtain rfl : gA = gA' := by
                      injection hgA' with h1
                      injection h1 with h1
                    have c1 := hsl i2 hlt2
                    unfold rowV at c1
                    have c2 := HM.out.at_ hlt2 hjl
                    have f2 := HM.out.frozen hlt2 j
                    obtain ⟨x, hx⟩ : ∃ x, Hid (scJ i2 j cc F1 i2 j = x) := ⟨_, rfl⟩
                    rw [hx.out] at c2
                    have RMx := RMu.out
                    have RMx := Lib.hid (fun W => RMx W x cc)
                    have u1 := x.toNat_lt
                    have HM2 := Lib.hid (HM.out.set_ hlt2 hjl (fm x cc)).drew
                    have HB2 := Lib.hid (HM.out.frame hlt2 HB.out j (.int .u8 ((fm x cc).toNat : Int))).drew
                    clear hsl hgA'
                    go_wp2_with fail
                    refine Reg2.region_E 14 (fun W => W.cell? ⟨gA, i2, none⟩ = some (.slice (some ⟨(g2 i2).1, 0, none⟩) R2 (g2 i2).2) ∧ W.cell? ⟨(g2 i2).1, j, none⟩ = some (.int .u8 (x.toNat : Int))) (by kernel_rfl) ⟨c1, c2⟩ (fun hHeld => ?_)
                    refine Reg2.freed 0 (v := ?_) rfl (by kernel_rfl) (by kernel_rfl) (by kernel_rfl) (fun _ _ _ h => h) (by rfl) ?_ ?_
                    rotate_left
                    · (intro W; go_simp; first | done | with_reducible rfl)
                    try simp only [Act.put, List.setIfInBounds_toArray, List.set_cons_zero, List.set_cons_succ]
                    refine Reg2.freed 1 (v := ?_) rfl (by kernel_rfl) (by kernel_rfl) (by kernel_rfl) (fun _ _ _ h => h) (by rfl) ?_ ?_
                    rotate_left
                    · (intro W; go_simp; first | done | with_reducible rfl)
                    try simp only [Act.put, List.setIfInBounds_toArray, List.set_cons_zero, List.set_cons_succ]
                    refine Reg2.freed 2 (v := ?_) rfl (by kernel_rfl) (by kernel_rfl) (by kernel_rfl) (fun _ _ _ h => h) (by rfl) ?_ ?_
                    rotate_left
                    · (intro W; go_simp; first | done | with_reducible rfl)
                    try simp only [Act.put, List.setIfInBounds_toArray, List.set_cons_zero, List.set_cons_succ]
                    refine Reg2.took 3 (v := ?_) rfl (by kernel_rfl) (by kernel_rfl) (by kernel_rfl) (by kernel_rfl) (fun _ _ _ h => h) (by rfl) (by assumption) ?_ ?_
                    rotate_left
                    · (intro W hSw; (try dsimp only at hSw); go_simp; first | done | with_reducible rfl)
                    try simp only [Act.put, List.setIfInBounds_toArray, List.set_cons_zero, List.set_cons_succ]
                    refine Reg2.freed 4 (v := ?_) rfl (by kernel_rfl) (by kernel_rfl) (by kernel_rfl) (fun _ _ _ h => h) (by rfl) ?_ ?_
                    rotate_left
                    · (intro W; go_simp; first | done | with_reducible rfl)
                    try simp only [Act.put, List.setIfInBounds_toArray, List.set_cons_zero, List.set_cons_succ]
                    refine Reg2.freed 5 (v := ?_) rfl (by kernel_rfl) (by kernel_rfl) (by kernel_rfl) (fun _ _ _ h => h) (by rfl) ?_ ?_
                    rotate_left
                    · (intro W; go_simp; first | done | with_reducible rfl)
                    try simp only [Act.put, List.setIfInBounds_toArray, List.set_cons_zero, List.set_cons_succ]
                    refine Reg2.freed 6 (v := ?_) rfl (by kernel_rfl) (by kernel_rfl) (by kernel_rfl) (fun _ _ _ h => h) (by rfl) ?_ ?_
                    rotate_left
                    · (intro W; go_simp; first | done | with_reducible rfl)
                    try simp only [Act.put, List.setIfInBounds_toArray, List.set_cons_zero, List.set_cons_succ]
                    refine Reg2.freed 7 (v := ?_) rfl (by kernel_rfl) (by kernel_rfl) (by kernel_rfl) (fun _ _ _ h => h) (by rfl) ?_ ?_
                    rotate_left
                    · (intro W; go_simp; first | done | with_reducible rfl)
                    try simp only [Act.put, List.setIfInBounds_toArray, List.set_cons_zero, List.set_cons_succ]
                    refine Reg2.took 8 (v := ?_) rfl (by kernel_rfl) (by kernel_rfl) (by kernel_rfl) (by kernel_rfl) (fun _ _ _ h => h) (by rfl) (by assumption) ?_ ?_
                    rotate_left
                    · (intro W hSw; (try dsimp only at hSw); go_simp; first | done | with_reducible rfl)
                    try simp only [Act.put, List.setIfInBounds_toArray, List.set_cons_zero, List.set_cons_succ]
                    refine Reg2.freed 9 (v := ?_) rfl (by kernel_rfl) (by kernel_rfl) (by kernel_rfl) (fun _ _ _ h => h) (by rfl) ?_ ?_
                    rotate_left
                    · (intro W; go_simp; first | done | with_reducible rfl)
                    try simp only [Act.put, List.setIfInBounds_toArray, List.set_cons_zero, List.set_cons_succ]
                    refine Reg2.freed 10 (v := ?_) rfl (by kernel_rfl) (by kernel_rfl) (by kernel_rfl) (fun _ _ _ h => h) (by rfl) ?_ ?_
                    rotate_left
                    · (intro W; go_simp; first | done | with_reducible rfl)
                    try simp only [Act.put, List.setIfInBounds_toArray, List.set_cons_zero, List.set_cons_succ]
                    refine Reg2.took 11 (v := ?_) rfl (by kernel_rfl) (by kernel_rfl) (by kernel_rfl) (by kernel_rfl) (fun _ _ _ h => h) (by rfl) (by assumption) ?_ ?_
                    rotate_left
                    · (intro W hSw; (try dsimp only at hSw); go_simp; first | done | with_reducible rfl)
                    try simp only [Act.put, List.setIfInBounds_toArray, List.set_cons_zero, List.set_cons_succ]
                    refine Reg2.freed 12 (v := ?_) rfl (by kernel_rfl) (by kernel_rfl) (by kernel_rfl) (fun _ _ _ h => h) (by rfl) ?_ ?_
                    rotate_left
                    · (intro W; go_simp; first | done | with_reducible rfl)
                    try simp only [Act.put, List.setIfInBounds_toArray, List.set_cons_zero, List.set_cons_succ]
                    refine Reg2.carried 13 rfl (by kernel_rfl) (by rfl) (fun K hK => ?_)
                    go_simp
                    (go_at_call 62; ((with_reducible refine (RMx.out _).mono ?_); rintro e w' ⟨rfl, rfl⟩))
                    refine hK.out _ _ (hHeld) (fun hHeld => ?_)
                    clear hK K
                    try simp only [Act.put, List.setIfInBounds_toArray, List.set_cons_zero, List.set_cons_succ]
                    refine Reg2.lately 14 rfl (by kernel_rfl) (by decide) (by rfl) (fun K hK => ?_)
                    go_simp
                    refine hK.out _ _ ?_
                    clear hK K
                    try simp only [Act.put, List.setIfInBounds_toArray, List.set_cons_zero, List.set_cons_succ]
                    refine Reg2.lately 15 rfl (by kernel_rfl) (by decide) (by rfl) (fun K hK => ?_)
                    go_simp
                    refine hK.out _ _ ?_
                    clear hK K
                    try simp only [Act.put, List.setIfInBounds_toArray, List.set_cons_zero, List.set_cons_succ]
                    refine Reg2.allDone (by kernel_rfl) ?_ _
                    clear hHeld c1 c2 f2 RMx
                    go_wp2_with fail
                    go_roundw
                    case rel =>
                      refine ⟨j + 1, by go_num, by omega, HB2, HM2.out.eqf (fun r t _ _ => ?_)⟩
                      have hxF : x = F1 i2 j := by rw [← hx.out]; unfold scJ; rw [if_neg (by omega)]
                      unfold scJ
                      by_cases h1 : r = i2
                      · subst h1
                        by_cases h2 : t = j
                        · subst h2; rw [if_pos ⟨rfl, rfl⟩, if_pos ⟨rfl, by omega⟩, hxF]
                        · by_cases h3 : t < j
                          · rw [if_neg (by omega), if_pos ⟨rfl, h3⟩, if_pos ⟨rfl, by omega⟩]
                          · rw [if_neg (by omega), if_neg (by omega), if_neg (by omega)]
                      · rw [if_neg (by omega), if_neg (by omega), if_neg (by omega)]
                    case measure => simp [intOf]; omega
                  · have hge : (R2 : Int) ≤ (j : Int) := by omega
                    have hF2 := HM.out.eqf (F' := Lin.scaleF i2 cc F1) (fun r t _ ht => by
                      unfold scJ Lin.scaleF
                      by_cases h1 : r = i2
                      · rw [if_pos ⟨h1, by omega⟩, if_pos h1, fm_comm]
                      · rw [if_neg (by omega), if_neg h1])
                    have FE := Lib.hid (fun r t hr => clrF_end i2 i i2 q (joinF i W B) (joinF i W B) r t hr)
                    rw [hF1.out, ha0.out, hcc.out] at FE
                    obtain ⟨F2, hF2e⟩ : ∃ F2, Lin.scaleF i2 cc F1 = F2 := ⟨_, rfl⟩
                    rw [hF2e] at hF2 FE
                    replace hF2 := Lib.hid hF2
                    clear HM hF2e
                    go_wp2_with fail
                    go_loopw [15] (fun v15 wr => ∃ (kk : Nat), v15 = .int .i64 kk ∧ kk ≤ i ∧ Hid (Below W0.heap.size W0 wr) ∧ Hid (RM wr W0.heap.size (some ⟨gA, 0, none⟩) i c5 R2 g2 (clrF i2 kk (fun r => F2 r i2) F2))) (fun v15 _ => i - (intOf v15).toNat)
                    case atStart => exact ⟨0, rfl, by omega, HB, hF2.out.eqf (fun r t _ _ => clrF_zero _ _ _ r t)⟩
                    case round =>
                      clear HB hF2 hge hjl
                      obtain ⟨kk, rfl, hkR, HB, HM⟩ := hrel
                      by_cases hkl : kk < i
                      · have hkl' : (kk : Int) < (i : Int) := by omega
                        obtain ⟨gA', hgA', hsl, -, -, -⟩ := HM.out.slot (by omega)
                        obtain rfl : gA = gA' := by
                          injection hgA' with h1
                          injection h1 with h1
                        have c1 := hsl kk hkl
                        unfold rowV at c1
                        have c2 := HM.out.at_ hkl hiR2
                        rw [clrF_here] at c2
                        obtain ⟨d, hd⟩ : ∃ d, Hid (F2 kk i2 = d) := ⟨_, rfl⟩
                        rw [hd.out] at c2
                        have hd8 := d.toNat_lt
                        clear hsl hgA'
                        go_wp2_with fail
                        clear c1 c2
                        go_loopw [17] (fun v17 wr => ∃ (j : Nat), v17 = .int .i64 j ∧ j ≤ R2 ∧ (kk = i2 → j = 0) ∧ Hid (Below W0.heap.size W0 wr) ∧ Hid (RM wr W0.heap.size (some ⟨gA, 0, none⟩) i c5 R2 g2 (adJ kk j d i2 (clrF i2 kk (fun r => F2 r i2) F2)))) (fun v17 _ => R2 - (intOf v17).toNat)
                        case atStart => exact ⟨0, rfl, by omega, fun _ => rfl, HB, HM.out.eqf (fun r t _ _ => by unfold adJ; rw [if_neg (by omega)])⟩
                        case round =>
                          clear HB HM
                          obtain ⟨j, rfl, hjR, hj0, HB, HM⟩ := hrel
                          by_cases hki : kk = i2
                          · have hki1 : ((kk : Int) != (i2 : Int)) = false := by rw [hki]; simp
                            have hki2 : ((kk : Int) == (i2 : Int)) = true := by rw [hki]; simp
                            have hj00 := hj0 hki
                            have HM2 := Lib.hid (HM.out.eqf (F' := clrF i2 (kk + 1) (fun r => F2 r i2) F2) (fun r t _ _ => by
                              rw [hj00]
                              unfold adJ
                              rw [if_neg (by omega)]
                              exact clrF_skip i2 kk (fun r => F2 r i2) F2 (.inl hki) r t))
                            replace hki := Lib.hid hki; replace hj00 := Lib.hid hj00
                            clear hj0
                            go_wp2_with fail
                            go_roundw
                            case rel => exact ⟨kk + 1, by go_num, by omega, HB, HM2⟩
                            case measure => simp [intOf]; omega
                          · have hki1 : ((kk : Int) != (i2 : Int)) = true := by simp; omega
                            have hki2 : ((kk : Int) == (i2 : Int)) = false := by simp; omega
                            clear hj0
                            replace hki := Lib.hid hki
                            by_cases hjl : j < R2
                            · have hjl' : (j : Int) < (R2 : Int) := by omega
                              obtain ⟨gA', hgA', hsl, -, -, -⟩ := HM.out.slot (by omega)
                              obtain rfl : gA = gA' := by
                                injection hgA' with h1
                                injection h1 with h1
                              have c1 := hsl kk hkl
                              have c3 := hsl i2 hlt2
                              unfold rowV at c1 c3
                              have c2 := HM.out.at_ hkl hjl
                              have c4 := HM.out.at_ hlt2 hjl
                              have f2 := HM.out.frozen hkl j
                              obtain ⟨x, hx⟩ : ∃ x, Hid (adJ kk j d i2 (clrF i2 kk (fun r => F2 r i2) F2) kk j = x) := ⟨_, rfl⟩
                              obtain ⟨y, hy⟩ : ∃ y, Hid (adJ kk j d i2 (clrF i2 kk (fun r => F2 r i2) F2) i2 j = y) := ⟨_, rfl⟩
                              rw [hx.out] at c2
                              rw [hy.out] at c4
                              have RMx := RMu.out
                              have RMx := Lib.hid (fun W => RMx W d y)
                              have hxor := xor8m x (fm d y)
                              have u1 := x.toNat_lt
                              have u2 := y.toNat_lt
                              have u3 := (fm d y).toNat_lt
                              have HM2 := Lib.hid (HM.out.set_ hkl hjl (x ^^^ fm d y)).drew
                              have HB2 := Lib.hid (HM.out.frame hkl HB.out j (.int .u8 ((x ^^^ fm d y).toNat : Int))).drew
                              clear hsl hgA'
                              generalize hv : x ^^^ fm d y = v at *
                              replace hv := Lib.hid hv
                              generalize (fm d y).toNat = fn at *
                              go_wp2_with fail
                              refine Reg2.region_E 22 (fun W => W.cell? ⟨gA, kk, none⟩ = some (.slice (some ⟨(g2 kk).1, 0, none⟩) R2 (g2 kk).2) ∧ W.cell? ⟨(g2 kk).1, j, none⟩ = some (.int .u8 (x.toNat : Int)) ∧ W.cell? ⟨gA, i2, none⟩ = some (.slice (some ⟨(g2 i2).1, 0, none⟩) R2 (g2 i2).2) ∧ W.cell? ⟨(g2 i2).1, j, none⟩ = some (.int .u8 (y.toNat : Int))) (by kernel_rfl) ⟨c1, c2, c3, c4⟩ (fun hHeld => ?_)
                              refine Reg2.freed 0 (v := ?_) rfl (by kernel_rfl) (by kernel_rfl) (by kernel_rfl) (fun _ _ _ h => h) (by rfl) ?_ ?_
                              rotate_left
                              · (intro W; go_simp; first | done | with_reducible rfl)
                              try simp only [Act.put, List.setIfInBounds_toArray, List.set_cons_zero, List.set_cons_succ]
                              refine Reg2.freed 1 (v := ?_) rfl (by kernel_rfl) (by kernel_rfl) (by kernel_rfl) (fun _ _ _ h => h) (by rfl) ?_ ?_
                              rotate_left
                              · (intro W; go_simp; first | done | with_reducible rfl)
                              try simp only [Act.put, List.setIfInBounds_toArray, List.set_cons_zero, List.set_cons_succ]
                              refine Reg2.freed 2 (v := ?_) rfl (by kernel_rfl) (by kernel_rfl) (by kernel_rfl) (fun _ _ _ h => h) (by rfl) ?_ ?_
                              rotate_left
                              · (intro W; go_simp; first | done | with_reducible rfl)
                              try simp only [Act.put, List.setIfInBounds_toArray, List.set_cons_zero, List.set_cons_succ]
                              refine Reg2.took 3 (v := ?_) rfl (by kernel_rfl) (by kernel_rfl) (by kernel_rfl) (by kernel_rfl) (fun _ _ _ h => h) (by rfl) (by assumption) ?_ ?_
                              rotate_left
                              · (intro W hSw; (try dsimp only at hSw); go_simp; first | done | with_reducible rfl)
                              try simp only [Act.put, List.setIfInBounds_toArray, List.set_cons_zero, List.set_cons_succ]
                              refine Reg2.freed 4 (v := ?_) rfl (by kernel_rfl) (by kernel_rfl) (by kernel_rfl) (fun _ _ _ h => h) (by rfl) ?_ ?_
                              rotate_left
                              · (intro W; go_simp; first | done | with_reducible rfl)
                              try simp only [Act.put, List.setIfInBounds_toArray, List.set_cons_zero, List.set_cons_succ]
                              refine Reg2.freed 5 (v := ?_) rfl (by kernel_rfl) (by kernel_rfl) (by kernel_rfl) (fun _ _ _ h => h) (by rfl) ?_ ?_
                              rotate_left
                              · (intro W; go_simp; first | done | with_reducible rfl)
                              try simp only [Act.put, List.setIfInBounds_toArray, List.set_cons_zero, List.set_cons_succ]
                              refine Reg2.freed 6 (v := ?_) rfl (by kernel_rfl) (by kernel_rfl) (by kernel_rfl) (fun _ _ _ h => h) (by rfl) ?_ ?_
                              rotate_left
                              · (intro W; go_simp; first | done | with_reducible rfl)
                              try simp only [Act.put, List.setIfInBounds_toArray, List.set_cons_zero, List.set_cons_succ]
                              refine Reg2.freed 7 (v := ?_) rfl (by kernel_rfl) (by kernel_rfl) (by kernel_rfl) (fun _ _ _ h => h) (by rfl) ?_ ?_
                              rotate_left
                              · (intro W; go_simp; first | done | with_reducible rfl)
                              try simp only [Act.put, List.setIfInBounds_toArray, List.set_cons_zero, List.set_cons_succ]
                              refine Reg2.took 8 (v := ?_) rfl (by kernel_rfl) (by kernel_rfl) (by kernel_rfl) (by kernel_rfl) (fun _ _ _ h => h) (by rfl) (by assumption) ?_ ?_
                              rotate_left
                              · (intro W hSw; (try dsimp only at hSw); go_simp; first | done | with_reducible rfl)
                              try simp only [Act.put, List.setIfInBounds_toArray, List.set_cons_zero, List.set_cons_succ]
                              refine Reg2.freed 9 (v := ?_) rfl (by kernel_rfl) (by kernel_rfl) (by kernel_rfl) (fun _ _ _ h => h) (by rfl) ?_ ?_
                              rotate_left
                              · (intro W; go_simp; first | done | with_reducible rfl)
                              try simp only [Act.put, List.setIfInBounds_toArray, List.set_cons_zero, List.set_cons_succ]
                              refine Reg2.freed 10 (v := ?_) rfl (by kernel_rfl) (by kernel_rfl) (by kernel_rfl) (fun _ _ _ h => h) (by rfl) ?_ ?_
                              rotate_left
                              · (intro W; go_simp; first | done | with_reducible rfl)
                              try simp only [Act.put, List.setIfInBounds_toArray, List.set_cons_zero, List.set_cons_succ]
                              refine Reg2.took 11 (v := ?_) rfl (by kernel_rfl) (by kernel_rfl) (by kernel_rfl) (by kernel_rfl) (fun _ _ _ h => h) (by rfl) (by assumption) ?_ ?_
                              rotate_left
                              · (intro W hSw; (try dsimp only at hSw); go_simp; first | done | with_reducible rfl)
                              try simp only [Act.put, List.setIfInBounds_toArray, List.set_cons_zero, List.set_cons_succ]
                              refine Reg2.freed 12 (v := ?_) rfl (by kernel_rfl) (by kernel_rfl) (by kernel_rfl) (fun _ _ _ h => h) (by rfl) ?_ ?_
                              rotate_left
                              · (intro W; go_simp; first | done | with_reducible rfl)
                              try simp only [Act.put, List.setIfInBounds_toArray, List.set_cons_zero, List.set_cons_succ]
                              refine Reg2.freed 13 (v := ?_) rfl (by kernel_rfl) (by kernel_rfl) (by kernel_rfl) (fun _ _ _ h => h) (by rfl) ?_ ?_
                              rotate_left
                              · (intro W; go_simp; first | done | with_reducible rfl)
                              try simp only [Act.put, List.setIfInBounds_toArray, List.set_cons_zero, List.set_cons_succ]
                              refine Reg2.freed 14 (v := ?_) rfl (by kernel_rfl) (by kernel_rfl) (by kernel_rfl) (fun _ _ _ h => h) (by rfl) ?_ ?_
                              rotate_left
                              · (intro W; go_simp; first | done | with_reducible rfl)
                              try simp only [Act.put, List.setIfInBounds_toArray, List.set_cons_zero, List.set_cons_succ]
                              refine Reg2.freed 15 (v := ?_) rfl (by kernel_rfl) (by kernel_rfl) (by kernel_rfl) (fun _ _ _ h => h) (by rfl) ?_ ?_
                              rotate_left
                              · (intro W; go_simp; first | done | with_reducible rfl)
                              try simp only [Act.put, List.setIfInBounds_toArray, List.set_cons_zero, List.set_cons_succ]
                              refine Reg2.took 16 (v := ?_) rfl (by kernel_rfl) (by kernel_rfl) (by kernel_rfl) (by kernel_rfl) (fun _ _ _ h => h) (by rfl) (by assumption) ?_ ?_
                              rotate_left
                              · (intro W hSw; (try dsimp only at hSw); go_simp; first | done | with_reducible rfl)
                              try simp only [Act.put, List.setIfInBounds_toArray, List.set_cons_zero, List.set_cons_succ]
                              refine Reg2.freed 17 (v := ?_) rfl (by kernel_rfl) (by kernel_rfl) (by kernel_rfl) (fun _ _ _ h => h) (by rfl) ?_ ?_
                              rotate_left
                              · (intro W; go_simp; first | done | with_reducible rfl)
                              try simp only [Act.put, List.setIfInBounds_toArray, List.set_cons_zero, List.set_cons_succ]
                              refine Reg2.freed 18 (v := ?_) rfl (by kernel_rfl) (by kernel_rfl) (by kernel_rfl) (fun _ _ _ h => h) (by rfl) ?_ ?_
                              rotate_left
                              · (intro W; go_simp; first | done | with_reducible rfl)
                              try simp only [Act.put, List.setIfInBounds_toArray, List.set_cons_zero, List.set_cons_succ]
                              refine Reg2.took 19 (v := ?_) rfl (by kernel_rfl) (by kernel_rfl) (by kernel_rfl) (by kernel_rfl) (fun _ _ _ h => h) (by rfl) (by assumption) ?_ ?_
                              rotate_left
                              · (intro W hSw; (try dsimp only at hSw); go_simp; first | done | with_reducible rfl)
                              try simp only [Act.put, List.setIfInBounds_toArray, List.set_cons_zero, List.set_cons_succ]
                              refine Reg2.carried 20 rfl (by kernel_rfl) (by rfl) (fun K hK => ?_)
                              go_simp
                              (go_at_call 62; ((with_reducible refine (RMx.out _).mono ?_); rintro e w' ⟨rfl, rfl⟩))
                              refine hK.out _ _ (hHeld) (fun hHeld => ?_)
                              clear hK K
                              try simp only [Act.put, List.setIfInBounds_toArray, List.set_cons_zero, List.set_cons_succ]
                              refine Reg2.freed 21 (v := ?_) rfl (by kernel_rfl) (by kernel_rfl) (by kernel_rfl) (fun _ _ _ h => h) (by rfl) ?_ ?_
                              rotate_left
                              · (intro W; go_simp; first | done | with_reducible rfl)
                              try simp only [Act.put, List.setIfInBounds_toArray, List.set_cons_zero, List.set_cons_succ]
                              refine Reg2.lately 22 rfl (by kernel_rfl) (by decide) (by rfl) (fun K hK => ?_)
                              go_simp
                              refine hK.out _ _ ?_
                              clear hK K
                              try simp only [Act.put, List.setIfInBounds_toArray, List.set_cons_zero, List.set_cons_succ]
                              refine Reg2.lately 23 rfl (by kernel_rfl) (by decide) (by rfl) (fun K hK => ?_)
                              go_simp
                              refine hK.out _ _ ?_
                              clear hK K
                              try simp only [Act.put, List.setIfInBounds_toArray, List.set_cons_zero, List.set_cons_succ]
                              refine Reg2.allDone (by kernel_rfl) ?_ _
                              clear hHeld c1 c2 c3 c4 f2 RMx hxor
                              go_wp2_with fail
                              go_roundw
                              case rel =>
                                refine ⟨j + 1, by go_num, by omega, fun e => absurd e hki.out, HB2, HM2.out.eqf (fun r t _ _ => ?_)⟩
                                have hxF : x = clrF i2 kk (fun r => F2 r i2) F2 kk j := by rw [← hx.out]; unfold adJ; rw [if_neg (by omega)]
                                have hyF : y = clrF i2 kk (fun r => F2 r i2) F2 i2 j := by rw [← hy.out]; unfold adJ; rw [if_neg (fun h => hki.out h.1.symm)]
                                rw [← hv.out]
                                unfold adJ
                                by_cases h1 : r = kk
                                · subst h1
                                  by_cases h2 : t = j
                                  · subst h2; rw [if_pos ⟨rfl, rfl⟩, if_pos ⟨rfl, by omega⟩, hxF, hyF]
                                  · by_cases h3 : t < j
                                    · rw [if_neg (by omega), if_pos ⟨rfl, h3⟩, if_pos ⟨rfl, by omega⟩]
                                    · rw [if_neg (by omega), if_neg (by omega), if_neg (by omega)]
                                · rw [if_neg (by omega), if_neg (by omega), if_neg (by omega)]
                              case measure => simp [intOf]; omega
                            · have hge : (R2 : Int) ≤ (j : Int) := by omega
                              have HM2 := Lib.hid (HM.out.eqf (F' := clrF i2 (kk + 1) (fun r => F2 r i2) F2) (fun r t _ ht => by
                                rw [← clrF_add i2 kk (fun r => F2 r i2) F2 hki.out r t]
                                unfold adJ addF
                                by_cases h1 : r = kk
                                · subst h1
                                  rw [if_pos ⟨rfl, by omega⟩, if_pos rfl, hd.out]
                                · rw [if_neg (by omega), if_neg h1]))
                              go_wp2_with fail
                              go_roundw
                              case rel => exact ⟨kk + 1, by go_num, by omega, HB, HM2⟩
                              case measure => simp [intOf]; omega
                      · have hge : (i : Int) ≤ (kk : Int) := by omega
                        have hkk : kk = i := by omega
                        have HM2 := Lib.hid (HM.out.eqf (F' := joinF i (Lin.stepW i2 i2 q W W) (Lin.stepW i2 i2 q W B)) (fun r t hr _ => by
                          rw [hkk, FE.out r t hr, step_join i i2 q hlt2]))
                        have HG2 : Hid (Lin.gaussGo i (i - (i2 + 1)) (i2 + 1) (Lin.stepW i2 i2 q W W) (Lin.stepW i2 i2 q W B) = G) := by
                          have h1 := HST.out
                          rw [if_pos hqi] at h1
                          unfold Hid
                          rw [← h1]; exact HG.out
                        replace hkk := Lib.hid hkk
                        go_wp2_with fail
                        go_roundw
                        case rel => exact ⟨i2 + 1, g2, _, _, by go_num, by omega, HB, HM2, HG2⟩
                        case measure => simp [intOf]; omega
              · have hqi2 : q = i := by omega
                have hqi' : (i : Int) ≤ (q : Int) := by omega
                have heq : (q : Int) = (i : Int) := by omega
                have hGn : G = none := by
                  have h1 := HST.out
                  rw [if_neg hqi] at h1
                  rw [← HG.out, h1]
                subst hGn
                have Hb4 := Lib.hid (KB.out _ HB.out).2
                have HBw := Lib.hid (KB.out _ HB.out).1
                replace hqi2 := Lib.hid hqi2
                clear hsl hfr
                go_wp2_with (refine wpList_store_row rfl 75 _ _ rfl g3 (mC 0 0 (.slice none 0 0)) rfl rfl 75 (mC 0 0 (.slice none 0 0)) Hb4.out info_ms rfl (mC_one _ _ _ _ _) ?_)
                exact bodyPost_ret (results_cell_int rfl _ _ g3 (mC 0 0 (.slice none 0 0)) (.int .i64 14) rfl rfl (run_loadVar_row _ g3 75 _ (mC 0 0 (.slice none 0 0)) (0, 0) _ (Hb4.out.row _) Tryd.underlying75 rfl info_ms)) rfl ⟨none, 0, rfl, World.ownsRow_nil _ _ _ 1, below_row HBw.out (Nat.le_of_lt hg3) _⟩
        · have hge2 : (i : Int) ≤ (i2 : Int) := by omega
          have hi2' : i2 = i := by omega
          have hGs : Hid (G = some B) := by
            unfold Hid
            rw [← HG.out, hi2']; exact gauss_end
          replace hi2' := Lib.hid hi2'
          go_wp2_with fail
          generalize hwB : wr = wB at *
          replace hwB := Lib.hid hwB
          have hbx : Blk (wB.alloc (.cells #[.int .i64 i, .int .i64 i, .slice none 0 0] 75)) wB.heap.size 75 (mC i i (.slice none 0 0)) := Blk.new _ _ _
          have hBx : Below wB.heap.size wB (wB.alloc (.cells #[.int .i64 i, .int .i64 i, .slice none 0 0] 75)) := (Below.refl _ _).alloc (Nat.le_refl _) _
          have hox : (wB.alloc (.cells #[.int .i64 i, .int .i64 i, .slice none 0 0] 75)).ownsRow wB.heap.size 5 1 (.slice none 0 0) 0 [] := World.ownsRow_nil _ _ _ 1
          generalize wB.alloc (.cells #[.int .i64 i, .int .i64 i, .slice none 0 0] 75) = wx at *
          have hWr : W0.heap.size ≤ wB.heap.size := HB.out.size
          generalize hgx : wB.heap.size = gx at *
          replace hgx := Lib.hid hgx
          replace hbx := Lib.hid hbx; replace hBx := Lib.hid hBx; replace hox := Lib.hid hox
          go_loopw [19] (fun v19 wz => ∃ (jj cx m : Nat) (Ax : Option Addr), v19 = .int .i64 jj ∧ jj ≤ i ∧ Hid (m = jj * i) ∧ Hid (Below gx wB wz) ∧ Hid (Blk wz gx 75 (mC i i (.slice Ax m cx))) ∧ Hid (wz.ownsRow gx 5 1 (.slice Ax m cx) m ((cellsTo i B (jj * i)).map B8))) (fun v19 _ => i - (intOf v19).toNat)
          case atStart => exact ⟨0, 0, 0, none, rfl, by omega, by unfold Hid; omega, hBx, hbx, by rw [Nat.zero_mul]; exact hox⟩
          case round =>
            clear hbx hBx hox
            obtain ⟨jj, cx, m, Ax, rfl, hjj, hmj, HBz, Hbx, HO⟩ := hrel
            have HB0 := Lib.hid (below_then HB.out (by rw [hgx.out]; exact HBz.out))
            have HMz := Lib.hid (HM.out.below (by rw [hgx.out]; exact HBz.out))
            by_cases hjl : jj < i
            · have hjl' : (jj : Int) < (i : Int) := by omega
              obtain ⟨gA, hgA, hsl, -, ⟨csA, hcsA⟩, -⟩ := HM.out.slot (by omega)
              subst hgA
              have hAlt : gA < gx := by rw [← hgx.out]; exact hcsA.lt
              have CA : Hid (∀ W, Below gx wB W → W.cell? ⟨gA, jj, none⟩ = some (.slice (some ⟨(g jj).1, 0, none⟩) R2 (g jj).2)) := fun W hW => (hW.cell (p := ⟨gA, jj, none⟩) hAlt).trans (by have := hsl jj hjl; unfold rowV at this; exact this)
              have hRi : R2 - i = i := by have := HR2.out; omega
              have hcap := (own_cap (HMz.out.row jj hjl)).1
              have cut : ∀ W, (Instr.slice 27 (.slice (some ⟨(g jj).1, 0, none⟩) R2 (g jj).2) (some (.int .i64 (i : Int))) none none).run Tryd.prog W = .ok (.slice (cutA (some ⟨(g jj).1, 0, none⟩) (g jj).2 i 1) i ((g jj).2 - i)) W := fun W => by
                have h := run_cut_lo (P := Tryd.prog) 27 5 i0 1 Tryd.underlying27 hi.out hz1.out (some ⟨(g jj).1, 0, none⟩) R2 (g jj).2 i .i64 (by have := HR2.out; omega) W
                rw [hRi] at h
                exact h
              have RD : Hid (Reads wr wr.heap.size 1 (cutA (some ⟨(g jj).1, 0, none⟩) (g jj).2 i 1) i ((rowF i (B jj)).map B8)) := by
                have h := (Reads.of_own (HMz.out.row jj hjl)).cutN (k := i) (by have := HR2.out; omega) hcap
                rw [hRi] at h
                have e1 : (rowF R2 (joinF i W B jj)).drop i = rowF i (B jj) := by
                  apply List.ext_getElem?
                  intro t
                  rw [List.getElem?_drop]
                  by_cases ht : t < i
                  · rw [rowF_get _ _ _ (by have := HR2.out; omega), rowF_get _ _ _ ht]
                    unfold joinF
                    rw [if_neg (by omega), Nat.add_sub_cancel_left]
                  · rw [List.getElem?_eq_none (by rw [rowF_len]; have := HR2.out; omega), List.getElem?_eq_none (by rw [rowF_len]; omega)]
                rw [e1] at h
                exact h
              have hmN : Hid (m + i = (jj + 1) * i) := by unfold Hid; rw [hmj.out, Nat.succ_mul]
              have hmb : m + i ≤ 65025 := by
                have h1 : (jj + 1) * i ≤ 255 * 255 := Nat.mul_le_mul (by omega) hR
                have := hmN.out; omega
              have hm1 : m + i ≤ maxLen := by unfold maxLen; omega
              have hm2 : (m + i) * 1 ≤ 140737488355328 := by omega
              have hgxz : gx ≤ wr.heap.size := by have := HBz.out.size; rw [hgx.out] at this; exact this
              have x2 : wr.cell? ⟨gx, 2, none⟩ = some (.slice Ax m cx) := Hbx.out.cell 2
              have c1 := CA.out wr HBz.out
              clear hRi hsl hcsA hcap
              generalize cutA (some ⟨(g jj).1, 0, none⟩) (g jj).2 i 1 = Ac at *
              generalize (g jj).2 - i = kc at *
              go_wp2_with fail
              refine region_E 9 (fun W => W.cell? ⟨gx, 2, none⟩ = some (.slice Ax m cx) ∧ W.cell? ⟨gA, jj, none⟩ = some (.slice (some ⟨(g jj).1, 0, none⟩) R2 (g jj).2)) (by kernel_rfl) ⟨x2, c1⟩ (fun hHeld => ?_)
              refine took 0 (v := ?_) rfl (by kernel_rfl) (by kernel_rfl) (by kernel_rfl) (by kernel_rfl) (fun _ _ _ h => h) (by rfl) (by assumption) ?_ ?_
              rotate_left
              · (intro W hSw; (try dsimp only at hSw); go_simp; first | done | with_reducible rfl)
              try simp only [Act.put, List.setIfInBounds_toArray, List.set_cons_zero, List.set_cons_succ]
              refine took 1 (v := ?_) rfl (by kernel_rfl) (by kernel_rfl) (by kernel_rfl) (by kernel_rfl) (fun _ _ _ h => h) (by rfl) (by assumption) ?_ ?_
              rotate_left
              · (intro W hSw; (try dsimp only at hSw); go_simp; first | done | with_reducible rfl)
              try simp only [Act.put, List.setIfInBounds_toArray, List.set_cons_zero, List.set_cons_succ]
              refine took 2 (v := ?_) rfl (by kernel_rfl) (by kernel_rfl) (by kernel_rfl) (by kernel_rfl) (fun _ _ _ h => h) (by rfl) (by assumption) ?_ ?_
              rotate_left
              · (intro W hSw; (try dsimp only at hSw); go_simp; first | done | with_reducible rfl)
              try simp only [Act.put, List.setIfInBounds_toArray, List.set_cons_zero, List.set_cons_succ]
              refine took 3 (v := ?_) rfl (by kernel_rfl) (by kernel_rfl) (by kernel_rfl) (by kernel_rfl) (fun _ _ _ h => h) (by rfl) (by assumption) ?_ ?_
              rotate_left
              · (intro W hSw; (try dsimp only at hSw); go_simp; first | done | with_reducible rfl)
              try simp only [Act.put, List.setIfInBounds_toArray, List.set_cons_zero, List.set_cons_succ]
              refine took 4 (v := ?_) rfl (by kernel_rfl) (by kernel_rfl) (by kernel_rfl) (by kernel_rfl) (fun _ _ _ h => h) (by rfl) (by assumption) ?_ ?_
              rotate_left
              · (intro W hSw; (try dsimp only at hSw); go_simp; first | done | with_reducible rfl)
              try simp only [Act.put, List.setIfInBounds_toArray, List.set_cons_zero, List.set_cons_succ]
              refine took 5 (v := ?_) rfl (by kernel_rfl) (by kernel_rfl) (by kernel_rfl) (by kernel_rfl) (fun _ _ _ h => h) (by rfl) (by assumption) ?_ ?_
              rotate_left
              · (intro W hSw; (try dsimp only at hSw); go_simp; first | done | with_reducible rfl)
              try simp only [Act.put, List.setIfInBounds_toArray, List.set_cons_zero, List.set_cons_succ]
              refine took 6 (v := ?_) rfl (by kernel_rfl) (by kernel_rfl) (by kernel_rfl) (by kernel_rfl) (fun _ _ _ h => h) (by rfl) (by assumption) ?_ ?_
              rotate_left
              · (intro W hSw; (try dsimp only at hSw); go_simp; first | done | with_reducible rfl)
              try simp only [Act.put, List.setIfInBounds_toArray, List.set_cons_zero, List.set_cons_succ]
              refine took 7 (v := ?_) rfl (by kernel_rfl) (by kernel_rfl) (by kernel_rfl) (by kernel_rfl) (fun _ _ _ h => h) (by rfl) (by assumption) ?_ ?_
              rotate_left
              · (intro W hSw; (try dsimp only at hSw); go_simp; first | done | with_reducible rfl)
              try simp only [Act.put, List.setIfInBounds_toArray, List.set_cons_zero, List.set_cons_succ]
              refine carriedL 8 rfl (by kernel_rfl) (fun K hK => ?_)
              (refine step_append_any _ (by rfl) _ _ _ (by rfl) gx 5 i0 (.int .u8 0) 1 1 Tryd.underlying27 hi.out hz0.out hz1.out hz2.out rfl (by omega) Ax m cx _ (by rfl) (HO.out.drew) wr.heap.size Ac i kc _ (by rfl) (RD.out.below ((Below.refl _ _).drew)) (row_one RD.out) hm1 hm2 (show gx ≤ wr.drew.heap.size from hgxz) ?_; intro A3 c3 w4 ho4 hg4 _hs4; have hb4 : Blk w4 gx 75 _ := blk_grown Hbx.out.drew HO.out.drew hg4; have hB4 : Below gx wB w4 := below_app HBz.out.drew hg4 HO.out.drew (show gx ≤ wr.drew.heap.size from hgxz))
              refine hK.out _ _ (⟨hb4.cell 2, CA.out w4 hB4⟩) (fun hHeld => ?_)
              clear hK K
              try simp only [Act.put, List.setIfInBounds_toArray, List.set_cons_zero, List.set_cons_succ]
              have x24 : w4.cell? ⟨gx, 2, none⟩ = some (.slice Ax m cx) := hb4.cell 2
              have xf4 : w4.frozen? ⟨gx, 2, none⟩ = false := hb4.frozen 2
              refine lately 9 rfl (by kernel_rfl) (by decide) (by rfl) (fun K hK => ?_)
              go_simp
              refine hK.out _ _ ?_
              clear hK K
              try simp only [Act.put, List.setIfInBounds_toArray, List.set_cons_zero, List.set_cons_succ]
              refine lately 10 rfl (by kernel_rfl) (by decide) (by rfl) (fun K hK => ?_)
              go_simp
              refine hK.out _ _ ?_
              clear hK K
              try simp only [Act.put, List.setIfInBounds_toArray, List.set_cons_zero, List.set_cons_succ]
              refine allDone (by kernel_rfl) ?_ _
              clear hHeld x2 c1 cut x24 xf4
              have ho5 := own_setM (j := 2) ho4 hb4 (.slice A3 (m + i) c3)
              have hb5 := hb4.set_ 2 (.slice A3 (m + i) c3)
              have hB5 := hB4.setCell (p := ⟨gx, 2, none⟩) (Nat.le_refl _) (.slice A3 (m + i) c3)
              replace ho5 := Lib.hid ho5; replace hb5 := Lib.hid hb5; replace hB5 := Lib.hid hB5
              clear ho4 hb4 hB4 hg4 _hs4
              go_wp2_with fail
              go_roundw
              case rel =>
                refine ⟨jj + 1, c3, m + i, A3, by go_num, by omega, hmN, hB5, ?_, ?_⟩
                · simpa [mC, Hid] using hb5.out
                · unfold Hid
                  rw [cellsTo_succ, List.map_append]
                  exact ho5.out
              case measure => simp [intOf]; omega
            · have hgej : (i : Int) ≤ (jj : Int) := by omega
              have hjj2 : jj = i := by omega
              rw [hjj2] at HO hmj
              replace hjj2 := Lib.hid hjj2
              have hcl := cellsTo_len i B (i * i)
              have Hb4 := Lib.hid (KB.out _ HB0.out).2
              have HBw := Lib.hid (KB.out _ HB0.out).1
              have hgle : w.heap.size ≤ gx := by omega
              go_wp2_with (first
                | (refine wpList_load_row rfl 75 _ rfl gx rfl 75 (mC i i (.slice Ax m cx)) (0, 0) _ Hbx.out Tryd.underlying75 rfl info_ms ?_)
                | (refine wpList_store_row rfl 75 _ _ rfl g3 (mC i i (.slice Ax m cx)) rfl rfl 75 (mC 0 0 (.slice none 0 0)) Hb4.out info_ms rfl (mC_one _ _ _ _ _) ?_))
              refine bodyPost_ret (results_cell_int rfl _ _ g3 (mC i i (.slice Ax m cx)) (.int .i64 0) rfl rfl (run_loadVar_row _ g3 75 _ (mC i i (.slice Ax m cx)) (0, 0) _ (Hb4.out.row _) Tryd.underlying75 rfl info_ms)) rfl ?_
              rw [hGs.out]
              refine ⟨Ax, cx, by rw [hcl, ← hmj.out], ?_, below_row HBw.out (Nat.le_of_lt hg3) _⟩
              have := own_setRowM (own_base HO.out hgle) Hb4.out (mC i i (.slice Ax m cx))
              rw [hcl, ← hmj.out]
              rw [← hmj.out] at this
              exact this
end Go.Proofs.YtjbedcgacnnanaaDoor
