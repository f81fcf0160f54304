/-
  Rows of bytes that the call made, each in a block of its own: read, written, swapped.
-/
import Derived.Test.YtbokbndphpdgoaaMatwk7
namespace Go.Proofs.Ytbokbndphpdgoaa
set_option linter.unusedSimpArgs false
set_option linter.unusedVariables false
open Go.RowKit

/-- the value of a row -/
def rowV (C : Nat) (g : Nat → Nat × Nat) (i : Nat) : Value := .slice (some ⟨(g i).1, 0, none⟩) C (g i).2
/-- n rows of C bytes -/
structure RM (W : World) (base : Nat) (A : Option Addr) (n c C : Nat) (g : Nat → Nat × Nat) (F : Nat → Nat → UInt8) : Prop where
  out : W.ownsRow base 22 1 (.slice A n c) n ((List.range n).map (rowV C g))
  row : ∀ i, i < n → W.ownsRow base 5 1 (.slice (some ⟨(g i).1, 0, none⟩) C (g i).2) C ((rowF C (F i)).map B8)
  inj : ∀ i j, i < n → j < n → (g i).1 = (g j).1 → i = j
  bs : base ≤ W.heap.size
section
variable {W W' : World} {base n c C : Nat} {A : Option Addr} {g : Nat → Nat × Nat} {F F' : Nat → Nat → UInt8}
theorem RM.below (h : RM W base A n c C g F) (hB : Below W.heap.size W W') : RM W' base A n c C g F :=
  ⟨own_belowL h.out hB, fun i hi => own_belowL (h.row i hi) hB, h.inj, Nat.le_trans h.bs hB.size⟩
theorem RM.drew (h : RM W base A n c C g F) : RM W.drew base A n c C g F := ⟨h.out, h.row, h.inj, h.bs⟩
theorem RM.eqf (h : RM W base A n c C g F) (e : ∀ i j, i < n → j < C → F i j = F' i j) : RM W base A n c C g F' :=
  ⟨h.out, fun i hi => by
    have h1 : rowF C (F i) = rowF C (F' i) := List.map_congr_left fun j hj => e i j hi (List.mem_range.1 hj)
    rw [← h1]; exact h.row i hi, h.inj, h.bs⟩
theorem RM.nil (w : World) (base C : Nat) (g : Nat → Nat × Nat) (F : Nat → Nat → UInt8) (hb : base ≤ w.heap.size) : RM w base none 0 0 C g F :=
  ⟨World.ownsRow_nil _ _ _ 1, fun i hi => by omega, fun i j hi => by omega, hb⟩
theorem RM.blk (h : RM W base A n c C g F) {i : Nat} (hi : i < n) : ∃ cs, Blk W (g i).1 5 cs ∧ base ≤ (g i).1 := by
  rcases (h.row i hi).2 with ⟨h1, _⟩ | ⟨g', cap, cur, hv, hb, hg, _⟩
  · cases h1
  · injection hv with hA
    injection hA with hA
    injection hA with hA
    subst hA
    exact ⟨cur, hg, hb⟩
theorem RM.at_ (h : RM W base A n c C g F) {i j : Nat} (hi : i < n) (hj : j < C) : W.cell? ⟨(g i).1, j, none⟩ = some (.int .u8 ((F i j).toNat : Int)) := by
  rw [(h.row i hi).cellAt j (by omega), List.getElem?_map, rowF_get _ _ _ hj]; rfl
theorem RM.frozen (h : RM W base A n c C g F) {i : Nat} (hi : i < n) (j : Nat) : W.frozen? ⟨(g i).1, j, none⟩ = false := (h.row i hi).frozenAt j
theorem RM.slot (h : RM W base A n c C g F) (hn : 0 < n) : ∃ gA, A = some ⟨gA, 0, none⟩ ∧ (∀ i, i < n → W.cell? ⟨gA, i, none⟩ = some (rowV C g i)) ∧ (∀ i, W.frozen? ⟨gA, i, none⟩ = false) ∧ (∃ cs, Blk W gA 22 cs) ∧ base ≤ gA := by
  have h0 := h.out
  rcases h0.2 with ⟨_, h1⟩ | ⟨g', cap, cur, hv, hb, hg, _⟩
  · omega
  · injection hv with hA _ hc
    subst hA
    refine ⟨g', rfl, fun i hi => ?_, fun i => h0.frozenAt i, ⟨cur, hg⟩, hb⟩
    rw [h0.cellAt i (by omega), List.getElem?_map, List.getElem?_range hi]; rfl
/-- a byte is written -/
theorem RM.set_ (h : RM W base A n c C g F) {i j : Nat} (hi : i < n) (hj : j < C) (v : UInt8) : RM (W.setCell ⟨(g i).1, j, none⟩ (.int .u8 (v.toNat : Int))) base A n c C g (fun r t => if r = i ∧ t = j then v else F r t) := by
  obtain ⟨cs, hb, hbase⟩ := h.blk hi
  refine ⟨?_, fun k hk => ?_, h.inj, by simpa using h.bs⟩
  · refine ownsRow_setCell_other h.out (fun e => ?_) _
    have hne := own_blk_ne h.out hb (by decide)
    exact hne e
  · by_cases hki : k = i
    · subst hki
      have h1 := ((h.row k hk).stored j (B8 v)).1
      have e1 : ((rowF C (F k)).map B8).set j (B8 v) = (rowF C (fun t => if k = k ∧ t = j then v else F k t)).map B8 := by
        rw [← List.map_set]
        congr 1
        apply List.ext_getElem?
        intro t
        rw [List.getElem?_set, rowF_len]
        by_cases ht : t < C
        · rw [rowF_get _ _ _ ht, rowF_get _ _ _ ht]
          by_cases e : j = t
          · rw [if_pos e, if_pos hj, if_pos ⟨rfl, e.symm⟩]
          · rw [if_neg e, if_neg (fun h => e h.2.symm)]
        · rw [List.getElem?_eq_none (by rw [rowF_len]; omega), List.getElem?_eq_none (by rw [rowF_len]; omega), if_neg (by omega)]
      rw [e1] at h1
      exact h1
    · have h1 := ownsRow_setCell_other (a := ⟨(g i).1, j, none⟩) (h.row k hk) (fun e => hki (h.inj k i hk hi (by simpa [Value.ownBlock] using e))) (.int .u8 (v.toNat : Int))
      have e1 : rowF C (fun t => if k = i ∧ t = j then v else F k t) = rowF C (F k) := List.map_congr_left fun t _ => by rw [if_neg (fun h => hki h.1)]
      rw [e1]
      exact h1
theorem RM.frame {w : World} {i : Nat} (h : RM W base A n c C g F) (hi : i < n) (hB : Below base w W) (j : Nat) (u : Value) : Below base w (W.setCell ⟨(g i).1, j, none⟩ u) := hB.setCell (p := ⟨(g i).1, j, none⟩) (h.blk hi).choose_spec.2 u
end
/-- a row is appended -/
theorem RM.push {W W4 : World} {base n c C gr cr c3 : Nat} {A A3 : Option Addr} {g : Nat → Nat × Nat} {F : Nat → Nat → UInt8} {x : Nat → UInt8} (h : RM W base A n c C g F) (hr : W.ownsRow base 5 1 (.slice (some ⟨gr, 0, none⟩) C cr) C ((rowF C x).map B8)) (hnew : ∀ i, i < n → (g i).1 ≠ gr)
    (ho4 : W4.ownsRow base 22 1 (.slice A3 (n + 1) c3) (n + 1) ((List.range n).map (rowV C g) ++ [.slice (some ⟨gr, 0, none⟩) C cr])) (hg4 : W.grownBy W4 (A.map (·.block))) :
    RM W4 base A3 (n + 1) c3 C (fun i => if i = n then (gr, cr) else g i) (fun i j => if i = n then x j else F i j) := by
  have keep : ∀ (A' : Option Addr) (c' : Nat) (xs : List Value), W.ownsRow base 5 1 (.slice A' C c') C xs → W4.ownsRow base 5 1 (.slice A' C c') C xs := fun A' c' xs ho => by
    refine ownsRow_block ho (fun a ha => ?_)
    obtain ⟨cs, fr, hh⟩ := own_row ho a.block (by rw [ha]; rfl)
    refine hg4.block _ (lt_of_heap hh) (fun e => ?_)
    obtain ⟨cs2, fr2, hh2⟩ := own_row h.out a.block e.symm
    rw [hh] at hh2
    injection hh2 with hh2
    injection hh2 with _ ht
    exact absurd ht (by decide)
  refine ⟨?_, fun i hi => ?_, fun i j hi hj e => ?_, Nat.le_trans h.bs hg4.size⟩
  · have e1 : (List.range (n + 1)).map (rowV C (fun i => if i = n then (gr, cr) else g i)) = (List.range n).map (rowV C g) ++ [.slice (some ⟨gr, 0, none⟩) C cr] := by
      rw [List.range_succ, List.map_append]
      congr 1
      · apply List.map_congr_left
        intro i hi
        have := List.mem_range.1 hi
        unfold rowV
        simp [show i ≠ n by omega]
      · simp [rowV]
    rw [e1]; exact ho4
  · by_cases e : i = n
    · subst e
      simp only [if_true]
      exact keep _ _ _ hr
    · simp only [if_neg e]
      exact keep _ _ _ (h.row i (by omega))
  · by_cases e1 : i = n <;> by_cases e2 : j = n
    · omega
    · simp only [e1, if_true, if_neg e2] at e
      exact absurd e.symm (hnew j (by omega))
    · simp only [e2, if_true, if_neg e1] at e
      exact absurd e (hnew i (by omega))
    · simp only [if_neg e1, if_neg e2] at e
      exact h.inj i j (by omega) (by omega) e
/-- rows swapped -/
def swapG (i p : Nat) (g : Nat → Nat × Nat) (r : Nat) : Nat × Nat := if r = i then g p else if r = p then g i else g r
theorem RM.swap {W : World} {base n c C gA : Nat} {g : Nat → Nat × Nat} {F : Nat → Nat → UInt8} (h : RM W base (some ⟨gA, 0, none⟩) n c C g F) {i p : Nat} (hi : i < n) (hp : p < n) :
    RM ((W.setCell ⟨gA, i, none⟩ (rowV C g p)).setCell ⟨gA, p, none⟩ (rowV C g i)) base (some ⟨gA, 0, none⟩) n c C (swapG i p g) (Lin.swapF i p F) := by
  obtain ⟨gA', hA, -, -, ⟨cs, hbl⟩, hbA⟩ := h.slot (by omega)
  obtain rfl : gA = gA' := by
    injection hA with hA
    injection hA with hA
  have h1 := (h.out.stored i (rowV C g p)).1
  have h2 := (h1.stored p (rowV C g i)).1
  have hl : (((List.range n).map (rowV C g)).set i (rowV C g p)).set p (rowV C g i) = (List.range n).map (rowV C (swapG i p g)) := by
    apply List.ext_getElem?
    intro t
    rw [List.getElem?_set, List.length_set, List.getElem?_set, List.length_map, List.length_range, List.getElem?_map, List.getElem?_map]
    by_cases ht : t < n
    · rw [List.getElem?_range ht]
      unfold swapG rowV
      by_cases e1 : p = t
      · subst e1
        rw [if_pos rfl, if_pos hp]
        by_cases e2 : p = i
        · subst e2; simp
        · simp [e2]
      · rw [if_neg e1]
        by_cases e2 : i = t
        · subst e2
          rw [if_pos rfl, if_pos hi]; simp
        · rw [if_neg e2]
          simp [Ne.symm e1, Ne.symm e2]
    · have hn : (List.range n)[t]? = none := List.getElem?_eq_none (by rw [List.length_range]; omega)
      rw [hn, if_neg (by omega), if_neg (by omega)]; rfl
  rw [hl] at h2
  refine ⟨h2, fun k hk => ?_, fun k j hk hj e => ?_, by simpa using h.bs⟩
  · have hrow : ∀ r, r < n → ((W.setCell ⟨gA, i, none⟩ (rowV C g p)).setCell ⟨gA, p, none⟩ (rowV C g i)).ownsRow base 5 1 (.slice (some ⟨(g r).1, 0, none⟩) C (g r).2) C ((rowF C (F r)).map B8) := fun r hr => by
      have hne : (g r).1 ≠ gA := by
        obtain ⟨cs', hb', _⟩ := h.blk hr
        exact hb'.ne_ hbl (by decide)
      have a1 := ownsRow_setCell_other (a := ⟨gA, i, none⟩) (h.row r hr) (fun e => hne (by simpa [Value.ownBlock] using e)) (rowV C g p)
      exact ownsRow_setCell_other (a := ⟨gA, p, none⟩) a1 (fun e => hne (by simpa [Value.ownBlock] using e)) (rowV C g i)
    by_cases e1 : k = i
    · have := hrow p hp
      have ef : Lin.swapF i p F k = F p := by funext t; unfold Lin.swapF; rw [if_pos e1]
      have eg : swapG i p g k = g p := by unfold swapG; rw [if_pos e1]
      rw [ef, eg]; exact this
    · by_cases e2 : k = p
      · have := hrow i hi
        have ef : Lin.swapF i p F k = F i := by funext t; unfold Lin.swapF; rw [if_neg e1, if_pos e2]
        have eg : swapG i p g k = g i := by unfold swapG; rw [if_neg e1, if_pos e2]
        rw [ef, eg]; exact this
      · have := hrow k hk
        have ef : Lin.swapF i p F k = F k := by funext t; unfold Lin.swapF; rw [if_neg e1, if_neg e2]
        have eg : swapG i p g k = g k := by unfold swapG; rw [if_neg e1, if_neg e2]
        rw [ef, eg]; exact this
  · have hs : ∀ r, r < n → ∃ r', r' < n ∧ swapG i p g r = g r' ∧ r' = (if r = i then p else if r = p then i else r) := fun r hr => by
      unfold swapG
      by_cases e1 : r = i
      · exact ⟨p, hp, by rw [if_pos e1], by rw [if_pos e1]⟩
      · by_cases e2 : r = p
        · exact ⟨i, hi, by rw [if_neg e1, if_pos e2], by rw [if_neg e1, if_pos e2]⟩
        · exact ⟨r, hr, by rw [if_neg e1, if_neg e2], by rw [if_neg e1, if_neg e2]⟩
    obtain ⟨k', hk', e1, e1'⟩ := hs k hk
    obtain ⟨j', hj', e2, e2'⟩ := hs j hj
    rw [e1, e2] at e
    have := h.inj k' j' hk' hj' e
    rw [e1', e2'] at this
    repeat' split at this
    all_goals omega

/-- side by side -/
def joinF (n : Nat) (W B : Nat → Nat → UInt8) (r j : Nat) : UInt8 := if j < n then W r j else B r (j - n)
theorem step_join (n i p : Nat) (hi : i < n) (W B : Nat → Nat → UInt8) (r j : Nat) : Lin.stepW i i p (joinF n W B) (joinF n W B) r j = joinF n (Lin.stepW i i p W W) (Lin.stepW i i p W B) r j := by
  have e1 : ∀ r, Lin.swapF i p (joinF n W B) r i = Lin.swapF i p W r i := fun r => by
    unfold Lin.swapF joinF
    simp [hi]
  have e2 : ∀ r, Lin.scaleF i (fi (Lin.swapF i p W i i)) (Lin.swapF i p (joinF n W B)) r i = Lin.scaleF i (fi (Lin.swapF i p W i i)) (Lin.swapF i p W) r i := fun r => by
    unfold Lin.scaleF
    rw [e1]
  unfold Lin.stepW
  rw [e1]
  by_cases hj : j < n
  · unfold joinF Lin.clearF Lin.scaleF Lin.swapF
    simp [hj, hi]
  · unfold joinF Lin.clearF Lin.scaleF Lin.swapF
    simp [hj, hi]
theorem fx_comm' (a b : UInt8) : fm a b = fm b a := fm_comm a b
end Go.Proofs.Ytbokbndphpdgoaa
