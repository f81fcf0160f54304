/-
  One stripe read, walked.
-/
import Derived.Test.YtjbedcgacnnanaaDoorStq
import Derived.Test.YtjbedcgacnnanaaDoorSto
import Derived.RangeFuncCalls
namespace Go.Proofs.YtjbedcgacnnanaaDoor
set_option linter.unusedSimpArgs false
set_option linter.unusedVariables false
open Go.RowKit Go.Shelf
attribute [local go_sem] Oper.semAt_some

namespace Stp
/-- of flags, the places that aren't good, counted from a -/
def badL (a : Nat) (l : List Bool) : List Nat := ((List.range l.length).filter fun i => !(l.getD i false)).map (a + ·)
theorem badL_snoc (a : Nat) (l : List Bool) (g : Bool) : badL a (l ++ [g]) = badL a l ++ (if g = true then [] else [a + l.length]) := by
  unfold badL
  rw [List.length_append, List.length_singleton, List.range_succ, List.filter_append, List.map_append]
  congr 1
  · congr 1
    apply List.filter_congr
    intro i hi
    have hi := List.mem_range.1 hi
    rw [List.getD_eq_getElem?_getD, List.getElem?_append_left hi, ← List.getD_eq_getElem?_getD]
  · have h : (l ++ [g]).getD l.length false = g := by rw [List.getD_eq_getElem?_getD, List.getElem?_append_right (Nat.le_refl _), Nat.sub_self]; rfl
    cases g with
    | false => rw [List.filter_cons_of_pos (by rw [h]; rfl)]; rfl
    | true => rw [List.filter_cons_of_neg (by rw [h]; decide)]; rfl
theorem badTo_add (ce : Nat) (s : List UInt8) (a : Nat) : ∀ j, badTo ce s (a + j) = badTo ce s a ++ badL a ((List.range j).map fun i => goodB (chunkB s ce (a + i)))
  | 0 => by simp [badL]
  | j + 1 => by
    rw [← Nat.add_assoc, badTo_step, badTo_add ce s a j, List.range_succ, List.map_append, List.append_assoc]
    congr 1
    rw [List.map_cons, List.map_nil, badL_snoc, List.length_map, List.length_range]
theorem fin_map {α : Type} (q : Nat) (f : Nat → α) : ((List.finRange q).map fun x => f x.val) = (List.range q).map f := by
  apply List.ext_getElem?
  intro i
  by_cases h : i < q
  · rw [List.getElem?_map, List.getElem?_map, List.getElem?_range h, List.getElem?_eq_getElem (by simpa using h)]
    simp
  · rw [List.getElem?_eq_none (by simp; omega), List.getElem?_eq_none (by simp; omega)]
end Stp
/-- blocks of cells stand -/
def KeepAll (w w' : World) : Prop := ∀ (k : Nat) (t : TypeId) (cs : Array Value) (fr : Nat × Nat), w.heap[k]? = some (.cells cs t fr) → w'.heap[k]? = some (.cells cs t fr)
theorem KeepAll.of_grown {w w' : World} {row : Option Nat} (hg : w.grownBy w' row) (hr : ∀ r, row = some r → ∃ o : Obj, w.heap[r]? = some o ∧ o.isCells = false) : KeepAll w w' := fun k t cs fr hk => by
  refine (hg.block k (lt_of_heap hk) fun e => ?_).trans hk
  obtain ⟨o, ho, hc⟩ := hr k e.symm
  rw [hk] at ho
  injection ho with ho
  rw [← ho] at hc
  exact absurd hc (by simp [Obj.isCells])
theorem KeepAll.own {w w' : World} {base size n c : Nat} {A : Option Addr} {E : TypeId} {xs : List Value} (hk : KeepAll w w') (h : w.ownsRow base E size (.slice A n c) n xs) : w'.ownsRow base E size (.slice A n c) n xs :=
  ownsRow_block h fun a ha => by
    obtain ⟨cs, fr, hc⟩ := own_row h a.block (by rw [ha]; rfl)
    rw [hc]
    exact hk _ _ _ _ hc
theorem KeepAll.blk {w w' : World} {g : Nat} {t : TypeId} {cs : Array Value} (hk : KeepAll w w') (h : Blk w g t cs) : Blk w' g t cs := hk _ _ _ _ h
/-- lists with all rows of the call's own, kept as their parts are -/
theorem Lists.kept {W W' : World} {base n c : Nat} {A : Option Addr} {xss : List (List UInt8)} (h : Lists W 0 base A n c xss) (hs : W.heap.size ≤ W'.heap.size)
    (hk : ∀ (E : TypeId) (size n' c' : Nat) (A' : Option Addr) (ys : List Value), (E = 27 ∨ E = 5) → W.ownsRow base E size (.slice A' n' c') n' ys → W'.ownsRow base E size (.slice A' n' c') n' ys) : Lists W' 0 base A n c xss := by
  obtain ⟨⟨vs, h1, h2, h3⟩, hb, h0⟩ := h
  refine ⟨⟨vs, hk _ _ _ _ _ _ (.inl rfl) h1, h2, fun i xs hi => ?_⟩, Nat.le_trans hb hs, h0⟩
  obtain ⟨Ai, ci, a1, a2, a3, a4⟩ := h3 i xs hi
  refine ⟨Ai, ci, a1, a2, a3, ?_⟩
  rcases a4 with a4 | a4
  · exact .inl (a4.keep fun p hp => absurd hp (Nat.not_lt_zero _))
  · exact .inr (hk _ _ _ _ _ _ (.inr rfl) a4)
section
variable {W W' : World} {g : Nat} {t E : TypeId} {cs : Array Value} {base size n c : Nat} {A : Option Addr} {xs : List Value}
/-- a cell of a block of another type turned: the rows stand -/
theorem own_setT (h : W.ownsRow base E size (.slice A n c) n xs) (hb : Blk W g t cs) (hE : E ≠ t) (j : Nat) (u : Value) : (W.setCell ⟨g, j, none⟩ u).ownsRow base E size (.slice A n c) n xs :=
  ownsRow_block h fun a ha => by
    refine Below.heap_setCell W ⟨g, j, none⟩ u a.block (fun e => ?_)
    obtain ⟨cs', fr, hc⟩ := own_row h g (by rw [ha]; exact congrArg some e)
    have hb' : W.heap[g]? = some (.cells cs t) := hb
    rw [hb'] at hc
    injection hc with hc
    injection hc with _ hc
    exact hE hc.symm
theorem blk_grownE (hb : Blk W g t cs) (h : W.ownsRow base E size (.slice A n c) n xs) (hE : E ≠ t) (hg : W.grownBy W' (A.map (·.block))) : Blk W' g t cs :=
  hb.grown hg fun e => by
    obtain ⟨cs', fr, hc⟩ := own_row h g e.symm
    have hb' : W.heap[g]? = some (.cells cs t) := hb
    rw [hb'] at hc
    injection hc with hc
    injection hc with _ hc
    exact hE hc.symm
theorem blk_setT {g' : Nat} {t' : TypeId} {cs' : Array Value} (h : Blk W g' t' cs') (hb : Blk W g t cs) (hE : t' ≠ t) (j : Nat) (u : Value) : Blk (W.setCell ⟨g, j, none⟩ u) g' t' cs' := h.far (p := ⟨g, j, none⟩) (h.ne_ hb hE) u
end
/-- what stands while a stripe is read: the boxes of the reader's address, the parts and the flags; the iterator's boxes; the reader -/
structure StJ (w0 : World) (base b0 g b2 b5 b6 bS bN k m ch no co : Nat) (Ao : Option Addr) (out : List UInt8) (vS vN : Value) (W : World) (n5 n6 : Nat) (L5 : List (List UInt8)) (L6 : List Bool) (at_ : Nat) (bd : List Nat) : Prop where
  r2 : Blk W b2 63 #[.pointer (some ⟨g, 0, none⟩)]
  r5 : ∃ A5 c5, Blk W b5 55 #[.slice A5 n5 c5] ∧ Lists W 0 b0 A5 n5 c5 L5
  r6 : ∃ A6 c6, Blk W b6 67 #[.slice A6 n6 c6] ∧ W.ownsRow b0 4 1 (.slice A6 n6 c6) n6 (L6.map Value.bool)
  rd : ∃ Ab nb cb, nb ≤ at_ ∧ Ab.map (·.block) ≠ some bN ∧ Rdr W base g k m ch Ao no co Ab nb cb at_ out bd
  below : Below base w0 W
  g5 : base ≤ b5
  g6 : base ≤ b6
  rS : Blk W bS 27 #[vS]
  rN : Blk W bN 3 #[vN]
  gS : bS < b0
  gN : bN < b0
  b00 : base ≤ b0
section
variable {w0 W W' : World} {base b0 g b2 b5 b6 bS bN k m ch no co at_ n5 n6 : Nat} {Ao : Option Addr} {out : List UInt8} {vS vN : Value} {bd : List Nat} {L5 : List (List UInt8)} {L6 : List Bool}
theorem StJ.keepAll {B : Nat} {row : Option Nat} (h : StJ w0 base b0 g b2 b5 b6 bS bN k m ch no co Ao out vS vN W n5 n6 L5 L6 at_ bd) (hB : base ≤ B) (hg : W.grownBy W' row) (hr : ∀ r, row = some r → B ≤ r ∧ ∃ o : Obj, W.heap[r]? = some o ∧ o.isCells = false) : StJ w0 base b0 g b2 b5 b6 bS bN k m ch no co Ao out vS vN W' n5 n6 L5 L6 at_ bd := by
  have hk : KeepAll W W' := KeepAll.of_grown hg fun r e => (hr r e).2
  obtain ⟨h2, ⟨A5, c5, h5, h5'⟩, ⟨A6, c6, h6, h6'⟩, ⟨Ab, nb, cb, hn, hne, hd⟩, hb, q5, q6, rS, rN, gS, gN, b00⟩ := h
  exact ⟨hk.blk h2, ⟨A5, c5, hk.blk h5, h5'.kept hg.size fun _ _ _ _ _ _ _ ho => hk.own ho⟩, ⟨A6, c6, hk.blk h6, hk.own h6'⟩, ⟨Ab, nb, cb, hn, hne, hk.blk hd.blk, hd.ge, hk.own hd.oo, hk.own hd.ob⟩, hb.grown hg (Nat.le_trans hd.ge (Nat.le_of_lt hd.blk.lt)) (fun r e => by have := (hr r e).1; omega), q5, q6, hk.blk rS, hk.blk rN, gS, gN, b00⟩
theorem StJ.size (h : StJ w0 base b0 g b2 b5 b6 bS bN k m ch no co Ao out vS vN W n5 n6 L5 L6 at_ bd) : base ≤ W.heap.size := by
  obtain ⟨Ab, nb, cb, hn, _, hd⟩ := h.rd
  exact Nat.le_trans hd.ge (Nat.le_of_lt hd.blk.lt)
theorem StJ.size0 (h : StJ w0 base b0 g b2 b5 b6 bS bN k m ch no co Ao out vS vN W n5 n6 L5 L6 at_ bd) : b0 ≤ W.heap.size := by
  obtain ⟨A5, c5, hd, hl⟩ := h.r5
  exact hl.bs
/-- what is not the reader's nor a row of ints stands behind part -/
theorem Part2.keep {Ab Ab' : Option Addr} {nb cb b : Nat} {cs : Array Value} {vs : List Value} (h : Part2 W W' g Ab Ab') (hb : Blk W g 65 cs) (ho : W.ownsRow b 3 1 (.slice Ab nb cb) nb vs) {t : TypeId} {cs' : Array Value} {fr : Nat × Nat} {k : Nat} (hk : W.heap[k]? = some (.cells cs' t fr)) (h1 : t ≠ 65) (h2 : t ≠ 3 ∨ Ab.map (·.block) ≠ some k) : W'.heap[k]? = some (.cells cs' t fr) := by
  refine (h.heap k (lt_of_heap hk) ?_ ?_).trans hk
  · rintro rfl
    have hb' : W.heap[k]? = some (.cells cs 65) := hb
    rw [hb'] at hk
    injection hk with hk
    injection hk with _ hk
    exact h1 hk.symm
  · rcases h2 with h2 | h2
    · intro e
      obtain ⟨cs2, fr2, hc⟩ := own_row ho k e
      rw [hk] at hc
      injection hc with hc
      injection hc with _ hc
      exact h2 hc
    · exact h2
/-- behind part -/
theorem StJ.part {at' nb cb : Nat} {bd' : List Nat} {Ab Ab' : Option Addr} {nb' cb' : Nat} (h : StJ w0 base b0 g b2 b5 b6 bS bN k m ch no co Ao out vS vN W n5 n6 L5 L6 at_ bd) (hd : Rdr W base g k m ch Ao no co Ab nb cb at_ out bd) (hne : Ab.map (·.block) ≠ some bN) (hR : Rdr W' base g k m ch Ao no co Ab' nb' cb' at' out bd') (hn : nb' ≤ at') (hB : Below base W W') (hK : Part2 W W' g Ab Ab') : StJ w0 base b0 g b2 b5 b6 bS bN k m ch no co Ao out vS vN W' n5 n6 L5 L6 at' bd' := by
  have hbk := hd.blk
  have hob := hd.ob
  have hs0 := h.size0
  obtain ⟨h2, ⟨A5, c5, h5, h5'⟩, ⟨A6, c6, h6, h6'⟩, -, hb, q5, q6, rS, rN, gS, gN, b00⟩ := h
  have KB : ∀ {b : Nat} {t : TypeId} {cs : Array Value}, Blk W b t cs → t ≠ 65 → t ≠ 3 → Blk W' b t cs := fun hbb e1 e2 => hK.keep hbk hob hbb e1 (.inl e2)
  have KO : ∀ {E : TypeId} {size n' c' : Nat} {A' : Option Addr} {ys : List Value}, E ≠ 65 → E ≠ 3 → W.ownsRow b0 E size (.slice A' n' c') n' ys → W'.ownsRow b0 E size (.slice A' n' c') n' ys := fun e1 e2 ho => ownsRow_block ho fun a ha => by
    obtain ⟨cs', fr, hc⟩ := own_row ho a.block (by rw [ha]; rfl)
    rw [hc]
    exact hK.keep hbk hob hc e1 (.inl e2)
  refine ⟨KB h2 (by decide) (by decide), ⟨A5, c5, KB h5 (by decide) (by decide), h5'.kept hB.size fun E _ _ _ _ _ hE ho => KO (by rcases hE with rfl | rfl <;> decide) (by rcases hE with rfl | rfl <;> decide) ho⟩, ⟨A6, c6, KB h6 (by decide) (by decide), KO (by decide) (by decide) h6'⟩, ⟨Ab', nb', cb', hn, fun e => ?_, hR⟩, hb.trans hB, q5, q6, KB rS (by decide) (by decide), hK.keep hbk hob rN (by decide) (.inr hne), gS, gN, b00⟩
  rcases hK.row _ e with e1 | e1
  · exact hne e1
  · omega
/-- behind the call of something that makes memory alone -/
theorem StJ.fresh (h : StJ w0 base b0 g b2 b5 b6 bS bN k m ch no co Ao out vS vN W n5 n6 L5 L6 at_ bd) (hB : Below W.heap.size W W') : StJ w0 base b0 g b2 b5 b6 bS bN k m ch no co Ao out vS vN W' n5 n6 L5 L6 at_ bd := by
  have hs := h.size
  obtain ⟨h2, ⟨A5, c5, h5, h5'⟩, ⟨A6, c6, h6, h6'⟩, ⟨Ab, nb, cb, hn0, hne, hd⟩, hb, q5, q6, rS, rN, gS, gN, b00⟩ := h
  exact ⟨h2.below hB h2.lt, ⟨A5, c5, h5.below hB h5.lt, h5'.below hB⟩, ⟨A6, c6, h6.below hB h6.lt, own_belowL h6' hB⟩, ⟨Ab, nb, cb, hn0, hne, hd.below hB⟩, hb.trans (hB.mono hs), q5, q6, rS.below hB rS.lt, rN.below hB rN.lt, gS, gN, b00⟩
theorem blk_grownO {b b' n c : Nat} {t E : TypeId} {cs : Array Value} {A : Option Addr} {size : Nat} {xs : List Value} (hb : Blk W b t cs) (h : W.ownsRow b' E size (.slice A n c) n xs) (hlt : b < b') (hg : W.grownBy W' (A.map (·.block))) : Blk W' b t cs :=
  hb.grown hg fun e => by
    have := (h.lt b (by rw [ownBlock_slice]; exact e.symm)).1
    omega
/-- one part more: the box of the parts still holds the old slice -/
theorem StJ.app5 {A5 A3 Ap : Option Addr} {c5 c3 cp lv : Nat} {x : List UInt8} {vs : List Value} {C : Obj} (h : StJ w0 base b0 g b2 b5 b6 bS bN k m ch no co Ao out vS vN W n5 n6 L5 L6 at_ bd) (h5 : Blk W b5 55 #[.slice A5 n5 c5])
    (h1 : W.ownsRow b0 27 1 (.slice A5 n5 c5) n5 vs) (h2 : L5.length = n5) (h3 : ∀ (i : Nat) (xs : List UInt8), L5[i]? = some xs → ∃ (Ai : Option Addr) (ci : Nat), vs[i]? = some (.slice Ai xs.length ci) ∧ RowOK W 0 b0 Ai ci xs)
    (hl : x.length = lv) (hp : W.ownsRow b0 5 1 (.slice Ap lv cp) lv (x.map B8)) (ho : W'.ownsRow b0 27 1 (.slice A3 (n5 + 1) c3) (n5 + 1) (vs ++ [.slice Ap lv cp])) (hg : (W.alloc C).grownBy W' (A5.map (·.block))) :
    Blk W' b5 55 #[.slice A5 n5 c5] ∧ StJ w0 base b0 g b2 b5 b6 bS bN k m ch no co Ao out vS vN (W'.setCell ⟨b5, 0, none⟩ (.slice A3 (n5 + 1) c3)) (n5 + 1) n6 (L5 ++ [x]) L6 at_ bd := by
  have hs := h.size
  have hs0 := h.size0
  obtain ⟨r2, -, ⟨A6, c6, h6, h6'⟩, ⟨Ab, nb, cb, hn0, hne, hd⟩, hb, q5, q6, rS, rN, gS, gN, b00⟩ := h
  have hBa : Below W.heap.size W (W.alloc C) := (Below.refl _ _).alloc (Nat.le_refl _) _
  have h1a := h1.alloc C
  have k5 : Blk W' b5 55 #[.slice A5 n5 c5] := blk_grownE (h5.alloc C) h1a (by decide) hg
  have hL := Lists.pushN hl ((RowOK.own (b0 := 0) hp).2.below (Nat.zero_le _) hs0 hBa) h1a h2 (fun i xs hi => by
    obtain ⟨Ai, ci, a1, a2⟩ := h3 i xs hi
    exact ⟨Ai, ci, a1, a2.below (Nat.zero_le _) hs0 hBa⟩) (Nat.zero_le _) (Nat.le_trans hs0 hBa.size) ho hg
  have hBW : Below base w0 W' := below_app (hb.trans (hBa.mono hs)) hg (own_base h1a b00) (Nat.le_trans hs hBa.size)
  refine ⟨k5, blk_setT (blk_grownE (r2.alloc C) h1a (by decide) hg) k5 (by decide) _ _, ⟨A3, c3, ?_, ?_⟩, ⟨A6, c6, ?_, ?_⟩, ⟨Ab, nb, cb, hn0, hne, ?_, hd.ge, ?_, ?_⟩, hBW.setCell (p := ⟨b5, 0, none⟩) q5 _, q5, q6, ?_, ?_, gS, gN, b00⟩
  · exact k5.set_ 0 _
  · exact hL.kept (by rw [World.size_setCell]; exact Nat.le_refl _) fun E _ _ _ _ _ hE ho => own_setT ho k5 (by rcases hE with rfl | rfl <;> decide) _ _
  · exact blk_setT (blk_grownE (h6.alloc C) h1a (by decide) hg) k5 (by decide) _ _
  · exact own_setT (own_apart (h6'.alloc C) h1a (by decide) hg) k5 (by decide) _ _
  · exact blk_setT (blk_grownE (hd.blk.alloc C) h1a (by decide) hg) k5 (by decide) _ _
  · exact own_setT (own_apart (hd.oo.alloc C) h1a (by decide) hg) k5 (by decide) _ _
  · exact own_setT (own_apart (hd.ob.alloc C) h1a (by decide) hg) k5 (by decide) _ _
  · exact blk_setT (blk_grownO (rS.alloc C) h1a gS hg) k5 (by decide) _ _
  · exact blk_setT (blk_grownO (rN.alloc C) h1a gN hg) k5 (by decide) _ _
/-- one flag more -/
theorem StJ.app6 {A6 A3 : Option Addr} {c6 c3 : Nat} {f : Bool} {C : Obj} (h : StJ w0 base b0 g b2 b5 b6 bS bN k m ch no co Ao out vS vN W n5 n6 L5 L6 at_ bd) (h6 : Blk W b6 67 #[.slice A6 n6 c6])
    (h1 : W.ownsRow b0 4 1 (.slice A6 n6 c6) n6 (L6.map Value.bool)) (ho : W'.ownsRow b0 4 1 (.slice A3 (n6 + 1) c3) (n6 + 1) (L6.map Value.bool ++ [.bool f])) (hg : (W.alloc C).grownBy W' (A6.map (·.block))) :
    Blk W' b6 67 #[.slice A6 n6 c6] ∧ StJ w0 base b0 g b2 b5 b6 bS bN k m ch no co Ao out vS vN (W'.setCell ⟨b6, 0, none⟩ (.slice A3 (n6 + 1) c3)) n5 (n6 + 1) L5 (L6 ++ [f]) at_ bd := by
  have hs := h.size
  have hs0 := h.size0
  obtain ⟨r2, ⟨A5, c5, h5, h5'⟩, -, ⟨Ab, nb, cb, hn0, hne, hd⟩, hb, q5, q6, rS, rN, gS, gN, b00⟩ := h
  have hBa : Below W.heap.size W (W.alloc C) := (Below.refl _ _).alloc (Nat.le_refl _) _
  have h1a := h1.alloc C
  have k6 : Blk W' b6 67 #[.slice A6 n6 c6] := blk_grownE (h6.alloc C) h1a (by decide) hg
  have hL := (h5'.below hBa).apart h1a (by decide) (by decide) (Nat.le_refl _) hg
  have hBW : Below base w0 W' := below_app (hb.trans (hBa.mono hs)) hg (own_base h1a b00) (Nat.le_trans hs hBa.size)
  refine ⟨k6, blk_setT (blk_grownE (r2.alloc C) h1a (by decide) hg) k6 (by decide) _ _, ⟨A5, c5, ?_, ?_⟩, ⟨A3, c3, ?_, ?_⟩, ⟨Ab, nb, cb, hn0, hne, ?_, hd.ge, ?_, ?_⟩, hBW.setCell (p := ⟨b6, 0, none⟩) q6 _, q5, q6, ?_, ?_, gS, gN, b00⟩
  · exact blk_setT (blk_grownE (h5.alloc C) h1a (by decide) hg) k6 (by decide) _ _
  · exact hL.kept (by rw [World.size_setCell]; exact Nat.le_refl _) fun E _ _ _ _ _ hE ho => own_setT ho k6 (by rcases hE with rfl | rfl <;> decide) _ _
  · exact k6.set_ 0 _
  · rw [List.map_append]; exact own_setT ho k6 (by decide) _ _
  · exact blk_setT (blk_grownE (hd.blk.alloc C) h1a (by decide) hg) k6 (by decide) _ _
  · exact own_setT (own_apart (hd.oo.alloc C) h1a (by decide) hg) k6 (by decide) _ _
  · exact own_setT (own_apart (hd.ob.alloc C) h1a (by decide) hg) k6 (by decide) _ _
  · exact blk_setT (blk_grownO (rS.alloc C) h1a gS hg) k6 (by decide) _ _
  · exact blk_setT (blk_grownO (rN.alloc C) h1a gN hg) k6 (by decide) _ _
theorem StJ.cellsK {n5' n6' at'' : Nat} {L5' : List (List UInt8)} {L6' : List Bool} {bd' : List Nat} (h : StJ w0 base b0 g b2 b5 b6 bS bN k m ch no co Ao out vS vN W n5 n6 L5 L6 at_ bd) (h' : StJ w0 base b0 g b2 b5 b6 bS bN k m ch no co Ao out vS vN W' n5' n6' L5' L6' at'' bd') : CellsK bS bN W W' := fun v =>
  ⟨fun e => by rw [h.rS.cell 0] at e; exact (h'.rS.cell 0).trans e, fun e => by rw [h.rN.cell 0] at e; exact (h'.rN.cell 0).trans e⟩
end
/-- what is no cells stands -/
theorem KeepsFrom.part {W W' : World} {g b nb cb B : Nat} {Ab Ab' : Option Addr} {cs : Array Value} {vs : List Value} (h : Part2 W W' g Ab Ab') (hb : Blk W g 65 cs) (ho : W.ownsRow b 3 1 (.slice Ab nb cb) nb vs) : KeepsFrom B W W' :=
  ⟨h.size, fun k o _ hk hc => by
    refine (h.heap k (lt_of_heap hk) ?_ ?_).trans hk
    · rintro rfl
      have hb' : W.heap[k]? = some (.cells cs 65) := hb
      rw [hb'] at hk
      injection hk with hk
      rw [← hk] at hc
      exact absurd hc (by simp [Obj.isCells])
    · intro e
      obtain ⟨cs2, fr2, hc2⟩ := own_row ho k e
      rw [hk] at hc2
      injection hc2 with hc2
      rw [hc2] at hc
      exact absurd hc (by simp [Obj.isCells])⟩
theorem KeepsFrom.app {W W' : World} {b n c B : Nat} {A : Option Addr} {E : TypeId} {vs : List Value} {C : Obj} (ho : W.ownsRow b E 1 (.slice A n c) n vs) (hg : (W.alloc C).grownBy W' (A.map (·.block))) (p : Addr) (u : Value) : KeepsFrom B W (W'.setCell p u) :=
  (((KeepsOthers.alloc W C).trans (KeepsOthers.of_grownBy hg fun j o hj ho' => by
    obtain ⟨cs, fr, hc⟩ := own_row (ho.alloc C) j hj
    rw [hc] at ho'
    injection ho' with ho'
    rw [← ho']; rfl)).trans (KeepsOthers.setCell W' p u)).from B
/-- lists of bytes as slabs -/
theorem slabs_rows {W : World} {B n k : Nat} {A : Option Addr} {xss : List (List UInt8)} (h : Rows8 W B A n xss) (hk : k ≤ n) (hB : B ≤ W.heap.size) : Slabs W W.heap.size A k ((xss.take k).map (List.map B8)) := by
  have hl := h.len
  refine ⟨by rw [List.length_map, List.length_take]; omega, fun j hj => ?_⟩
  obtain ⟨ad, xs, Ai, ni, ci, hA, _, hx, hc, _, _, hr⟩ := h.row (show j < n by omega)
  exact ⟨ad, Ai, ni, ci, xs.map B8, hA, by rw [List.getElem?_map, List.getElem?_take, if_pos hj, hx]; rfl, hc, hr.more hB, row_one hr⟩
theorem slabs_flat (xss : List (List UInt8)) (k : Nat) : ((xss.take k).map (List.map B8)).flatten = ((xss.take k).flatten).map B8 := by rw [List.map_flatten]
theorem slabs_total {L : Nat} (xss : List (List UInt8)) (h : ∀ x ∈ xss, x.length = L) : total (xss.map (List.map B8)) = xss.length * L := by
  unfold total
  rw [← List.map_flatten, List.length_map, Stp.flat_len _ h]
theorem info_boolu : (Tryd.prog.info? 4).map (fun i => (i.zero, i.size, i.bytes)) = some (some (.bool false), 1, 1) := by kernel_rfl
/-- a word on every way out but a panic -/
def noPanic (Q : Exit → Act → World → Prop) : Exit → Act → World → Prop
  | .panic _, _, _ => False
  | e, a, w => Q e a w
theorem noPanic_imp {Q : Exit → Act → World → Prop} {e : Exit} {a : Act} {w : World} (h : noPanic Q e a w) : Q e a w := by
  cases e <;> first | exact h | exact h.elim
/-- what reading a stripe hands back -/
def StRet (w : World) (base g k m ch q ce at_ : Nat) (out xs : List UInt8) (bd : List Nat) (e : Ending) (w' : World) : Prop :=
  e = .returned (.int .i64 (Stp.csE k m (Stp.partsB q ce xs))) ∧ Below base w w' ∧ (Stp.csE k m (Stp.partsB q ce xs) = 0 → ∃ Ao no co Ab nb cb, nb ≤ at_ + q ∧ Rdr w' base g k m ch Ao no co Ab nb cb (at_ + q) (out ++ Stp.csV k m (Stp.partsB q ce xs)) (bd ++ Stp.badL at_ (Stp.goodL (Stp.partsB q ce xs))))
set_option maxRecDepth 100000 in
set_option maxHeartbeats 16000000 in
theorem stripe_in (base g k m ch q ce L no co nb cb at_ : Nat) (Ao Ab A : Option Addr) (c : Nat) (out xs : List UInt8) (bd : List Nat) (w : World) (ht : Tab w) (htb : 0 < base) (hR : Rdr w base g k m ch Ao no co Ab nb cb at_ out bd) (hb : base ≤ w.heap.size) (hr : Reads w base 1 A L (xs.map B8)) (hLc : L ≤ c) (hcm : c ≤ maxLen)
    (hq : k + m = q) (hce : ch + 4 = ce) (hL : L = q * ce) (k1 : 1 ≤ k) (km : q ≤ 255) (c1' : 1 ≤ ch) (c2' : ch ≤ 4096) (ha : at_ ≤ 16777216) (hnb : nb ≤ at_) (hno : no + k * ch ≤ 16777216) :
    Calls Tryd.prog 31 #[.pointer (some ⟨g, 0, none⟩), .slice A L c] w (StRet w base g k m ch q ce at_ out xs bd) := by
  have hL2 : L ≤ 1045500 := by
    have := Stp.laid_le (show k + m ≤ 255 by omega) c2'
    rw [hq, hce, ← hL] at this; exact this
  have hxl := hr.len
  have hc4 : (ch : Int) + 4 = (ce : Int) := by omega
  have hce1 : ce ≤ 4100 := by omega
  have hce2 : 1 ≤ ce := by omega
  have hb1 := hR.blk
  have hbA := ((hb1.alloc (.cells #[.pointer (some ⟨g, 0, none⟩)] 63)).alloc (.cells #[.slice none 0 0] 55)).alloc (.cells #[.slice none 0 0] 67)
  have c2 := hbA.cell 2
  have n2 : Blk (((w.alloc (.cells #[.pointer (some ⟨g, 0, none⟩)] 63)).alloc (.cells #[.slice none 0 0] 55)).alloc (.cells #[.slice none 0 0] 67)) w.heap.size 63 #[.pointer (some ⟨g, 0, none⟩)] := ((Blk.new w _ _).alloc _).alloc _
  have n5 : Blk (((w.alloc (.cells #[.pointer (some ⟨g, 0, none⟩)] 63)).alloc (.cells #[.slice none 0 0] 55)).alloc (.cells #[.slice none 0 0] 67)) (w.heap.size + 1) 55 #[.slice none 0 0] := by
    have h := (Blk.new (w.alloc (.cells #[.pointer (some ⟨g, 0, none⟩)] 63)) 55 #[.slice none 0 0]).alloc (.cells #[.slice none 0 0] 67)
    rwa [World.size_alloc] at h
  have n6 : Blk (((w.alloc (.cells #[.pointer (some ⟨g, 0, none⟩)] 63)).alloc (.cells #[.slice none 0 0] 55)).alloc (.cells #[.slice none 0 0] 67)) (w.heap.size + 1 + 1) 67 #[.slice none 0 0] := by
    have h := Blk.new ((w.alloc (.cells #[.pointer (some ⟨g, 0, none⟩)] 63)).alloc (.cells #[.slice none 0 0] 55)) 67 #[.slice none 0 0]
    rwa [World.size_alloc, World.size_alloc] at h
  have hBA : Below w.heap.size w (((w.alloc (.cells #[.pointer (some ⟨g, 0, none⟩)] 63)).alloc (.cells #[.slice none 0 0] 55)).alloc (.cells #[.slice none 0 0] 67)) := (((Below.refl _ _).alloc (Nat.le_refl _) _).alloc (by simp) _).alloc (by simp; omega) _
  replace hbA := Lib.hid hbA; replace n2 := Lib.hid n2; replace n5 := Lib.hid n5; replace n6 := Lib.hid n6; replace hBA := Lib.hid hBA
  have KChk := Lib.hid (fun W => chunk_any A L c ce W hce2)
  have HQ := Lib.hid hq; have HCE := Lib.hid hce; have HL := Lib.hid hL; have HR := Lib.hid hR; have HRD := Lib.hid hr; have HT := Lib.hid ht
  have HB := Lib.hid hb
  clear hq hce hL hR hr ht hxl
  refine (callsIn_wide (n := 5)).1 (callsIn_of_wp_marks Tryd.func31 rfl trivial ?_ rfl)
  simp only [Tryd.ntmps31, List.size_toArray, List.length_cons, List.length_nil, Nat.reduceAdd, Nat.reduceSub, Array.replicate_succ, Array.replicate_zero, List.push_toArray, List.append_toArray, List.nil_append, List.cons_append]
  refine wpIn_wide.2 ?_
  refine Code.wp_mono (Q := noPanic (bodyPostM Fence.wide 5 Tryd.prog Tryd.f31 (StRet w base g k m ch q ce at_ out xs bd))) (fun e a w h => noPanic_imp h) ?_
  go_wp2_with fail
  generalize hw3 : ((w.alloc (.cells #[.pointer (some ⟨g, 0, none⟩)] 63)).alloc (.cells #[.slice none 0 0] 55)).alloc (.cells #[.slice none 0 0] 67) = w3 at *
  replace hw3 := Lib.hid hw3
  refine (KChk.out _).mono ?_; rintro e w4 ⟨rfl, rfl⟩
  clear c2 KChk
  go_wp2_with fail
  have hw3s : w.heap.size ≤ w3.heap.size := hBA.out.size
  obtain ⟨W4, hW4⟩ : ∃ W4, (w3.alloc (.cells #[.slice A L c] 27)).alloc (.cells #[.int .i64 ce] 3) = W4 := ⟨_, rfl⟩
  have hB4 : Below w3.heap.size w3 W4 := by rw [← hW4]; exact ((Below.refl _ _).alloc (Nat.le_refl _) _).alloc (by simp) _
  have hB4w : Below w.heap.size w W4 := below_then hBA.out hB4
  have hs4 : w3.heap.size + 2 = W4.heap.size := by rw [← hW4]; simp
  have rS4 : Blk W4 w3.heap.size 27 #[.slice A L c] := by
    rw [← hW4]; exact (Blk.new w3 27 #[.slice A L c]).alloc (.cells #[.int .i64 ce] 3)
  have rN4 : Blk W4 (w3.heap.size + 1) 3 #[.int .i64 ce] := by
    have h := Blk.new (w3.alloc (.cells #[.slice A L c] 27)) 3 #[.int .i64 ce]
    rw [World.size_alloc, hW4] at h; exact h
  have q1 := rS4.cell 0
  have q2 := rN4.cell 0
  have hI0 : StJ w base W4.heap.size g w.heap.size (w.heap.size + 1) (w.heap.size + 1 + 1) w3.heap.size (w3.heap.size + 1) k m ch no co Ao out (.slice A L c) (.int .i64 ce) W4 0 0 [] [] (at_ + 0) (bd ++ Stp.badL at_ []) := by
    refine ⟨n2.out.below hB4 n2.out.lt, ⟨none, 0, n5.out.below hB4 n5.out.lt, Lists.nil _ _ _ (Nat.zero_le _) (Nat.le_refl _)⟩, ⟨none, 0, n6.out.below hB4 n6.out.lt, World.ownsRow_nil _ _ _ _⟩, ⟨Ab, nb, cb, hnb, fun e => by have := own_lt HR.out.ob _ e; omega, ?_⟩, hB4w.mono HB.out, by omega, by omega, rS4, rN4, by omega, by omega, by omega⟩
    have : bd ++ Stp.badL at_ [] = bd := by simp [Stp.badL]
    rw [this]
    exact HR.out.below hB4w
  rw [hW4]
  have hW4s : w.heap.size ≤ W4.heap.size := hB4w.size
  replace hI0 := Lib.hid hI0; replace hW4 := Lib.hid hW4; replace hB4 := Lib.hid hB4; replace hB4w := Lib.hid hB4w
  clear n2 n5 n6 hbA hBA rS4 rN4
  obtain ⟨i1, hi_, hy0, hy1, hy2⟩ := info_parts info_row8
  replace hi_ := Lib.hid hi_; replace hy0 := Lib.hid hy0; replace hy1 := Lib.hid hy1; replace hy2 := Lib.hid hy2
  obtain ⟨i3, hk, hw0, hw1, hw2⟩ := info_parts info_boolu
  replace hk := Lib.hid hk; replace hw0 := Lib.hid hw0; replace hw1 := Lib.hid hw1; replace hw2 := Lib.hid hw2
  refine (wpIn_wide (n := 4)).1 ?_
  refine wpIn_rangeFunc_ownG (F := Fence.wide) (n := 4) rfl (by omega) (gf := 36) (lb := #[.pointer (some ⟨w3.heap.size, 0, none⟩), .pointer (some ⟨w3.heap.size + 1, 0, none⟩)]) rfl trivial (enters_of Tryd.func36 (by kernel_rfl) rfl)
    (chunk_stopsC Fence.wide 3 trivial rfl (by omega) w3.heap.size (w3.heap.size + 1) A L c ce q HL.out hce2 hLc (by omega) W4 q1 q2 (by omega) (by omega)) (fun h k => CellsK.trans h k) (fun W l o o' h1 h2 h3 h4 => CellsK.put _ _ W l o o' h1 h2 h3 h4) (Below.refl _ _) (fun _ => rfl)
    (fun (pre : List (Fin q)) W => StJ w base W4.heap.size g w.heap.size (w.heap.size + 1) (w.heap.size + 1 + 1) w3.heap.size (w3.heap.size + 1) k m ch no co Ao out (.slice A L c) (.int .i64 ce) W pre.length pre.length (pre.map fun x => Crcp.cutV (Stp.chunkB xs ce x.val)) (pre.map fun x => Stp.goodB (Stp.chunkB xs ce x.val)) (at_ + pre.length) (bd ++ Stp.badL at_ (pre.map fun x => Stp.goodB (Stp.chunkB xs ce x.val))))
    (fun _ _ _ => False)
    (fun pre W W' row h hg hr => h.keepAll (Nat.le_trans HB.out hW4s) hg hr)
    (fun _ _ _ _ _ hs _ _ => hs)
    hI0.out
    (fun x => { tmps := #[.pointer (some ⟨g, 0, none⟩), .slice A L c, .pointer (some ⟨w.heap.size, 0, none⟩), undef, .int .i64 0, .pointer (some ⟨w.heap.size + 1, 0, none⟩), .pointer (some ⟨w.heap.size + 1 + 1, 0, none⟩), chunkV A ce x.val, undef, undef, undef, undef, undef, undef, .slice A L c, .pointer (some ⟨g, 0, none⟩), .pointer (some ⟨g, 0, none⟩), .pointer (some ⟨g, 0, none⟩), .pointer (some ⟨g, 2, none⟩), .int .i64 ch, .int .i64 ce, chunkF w3.heap.size (w3.heap.size + 1), chunkV A ce x.val, undef, undef, undef, undef, undef, undef, undef, undef, undef, undef, undef, undef, undef, undef, undef, undef, undef, undef, undef, undef, undef, undef, undef, undef, undef, undef, undef, undef, undef, undef, undef, undef, undef, undef, undef, undef, undef, undef, undef, undef, undef, undef, undef, undef, undef, undef, undef, undef, undef, undef, undef, undef, undef, undef, undef, undef, undef, undef, undef, undef, undef, undef, undef, undef, undef, undef, undef, undef, undef, undef], defers := [] }) ?assign ?body ?done ?stop
  case assign =>
    intro l x W K hK
    gi_wp2
    exact hK
  case body =>
    rintro l pre x W hI hlt
    have hJ := Lib.hid hI
    obtain ⟨hr2, ⟨A5, c5, h5, h5'⟩, ⟨A6, c6, h6, h6'⟩, ⟨Ab, nb, cb, hnb, hne, hd⟩, hBw, q5, q6, -, -, -, -, -⟩ := hI
    have hs0 := hJ.out.size0
    have hsz := hJ.out.size
    obtain ⟨Ax, hAx⟩ : ∃ Ax, A.map (·.add (x.val * ce)) = Ax := ⟨_, rfl⟩
    have hx : chunkV A ce x.val = .slice Ax ce ce := by unfold chunkV; rw [hAx]
    have hxq : (x.val + 1) * ce ≤ L := by rw [HL.out]; exact Nat.mul_le_mul_right _ x.isLt
    have hRx : Reads W W.heap.size 1 Ax ce ((Stp.chunkB xs ce x.val).map B8) := by
      rw [← hAx]
      exact ((HRD.out.below hBw).more hsz).chunk hxq
    have hBl : (Stp.chunkB xs ce x.val).length = ce := hRx.len
    have KP := part_in base g k m ch no co nb cb (at_ + pre.length) Ao Ab Ax ce ce out (Stp.chunkB xs ce x.val) _ W (HT.out.below hBw htb) hd hsz hRx (Nat.le_refl _) (by unfold maxLen; omega) (by omega) (by omega) hnb
    simp only [hx]
    generalize hBx : Stp.chunkB xs ce x.val = B at *
    have hvl : (Crcp.cutV B).length ≤ ch := Stp.cutV_le (by rw [hBl]; exact HCE.out.symm)
    unfold PartRet at KP
    generalize hV : Crcp.cutV B = V at *
    generalize hG : Stp.goodB B = G at *
    obtain ⟨lv, hlv⟩ : ∃ lv, V.length = lv := ⟨_, rfl⟩
    rw [hlv] at KP hvl
    have c2 := hr2.cell 0
    replace hr2 := Lib.hid hr2; replace h5 := Lib.hid h5; replace h5' := Lib.hid h5'; replace h6 := Lib.hid h6; replace h6' := Lib.hid h6'; replace hd := Lib.hid hd; replace hBw := Lib.hid hBw
    replace KP := Lib.hid KP; replace hRx := Lib.hid hRx; replace hV := Lib.hid hV; replace hG := Lib.hid hG; replace hBx := Lib.hid hBx; replace hlv := Lib.hid hlv
    clear hx hAx
    gi_wp2
    refine ⟨trivial, (CallsIn.inRound l (callsIn_wide.2 KP.out)).mono ?_⟩
    rintro e W1 ⟨Ap, cp, Ab', nb', cb', rfl, hp, hd1, hn1, hB1, hK1⟩
    have hJ1 := StJ.part hJ.out hd.out hne hd1 hn1 hB1 hK1
    have hKF := KeepsFrom.part (B := W4.heap.size) hK1 hd.out.blk hd.out.ob
    have hp1 := own_base hp hs0
    have hCK : CellsK w3.heap.size (w3.heap.size + 1) W W1 := StJ.cellsK hJ.out hJ1
    clear hd1 hp hB1 hK1 KP hr2 h5 h5' h6 h6' hd c2
    obtain ⟨A5, c5, k5, k5'⟩ := hJ1.r5
    obtain ⟨⟨vs, v1, v2, v3⟩, -, -⟩ := k5'
    obtain ⟨A6, c6, k6, k6'⟩ := hJ1.r6
    have hs1 := hJ1.size0
    have c5' := k5.cell 0
    replace k5 := Lib.hid k5; replace v1 := Lib.hid v1; replace v2 := Lib.hid v2; replace v3 := Lib.hid v3; replace k6 := Lib.hid k6; replace k6' := Lib.hid k6'
    replace hJ1 := Lib.hid hJ1; replace hKF := Lib.hid hKF; replace hp1 := Lib.hid hp1; replace hCK := Lib.hid hCK
    have hpl : pre.length + 1 ≤ 256 := by omega
    have hc1 : pre.length + 1 ≤ maxLen := by unfold maxLen; omega
    have hc2 : (pre.length + 1) * 24 ≤ 140737488355328 := by omega
    have hc3 : (pre.length + 1) * 1 ≤ 140737488355328 := by omega
    have hbs : W4.heap.size ≤ (W1.alloc (.cells #[.slice Ap lv cp] 27)).heap.size := Nat.le_trans hs1 (by simp)
    gi_wp2_with (first | (gi_at_builtin; refine wpListIn_append_own _ rfl _ _ 55 rfl W4.heap.size 27 i1 (.slice none 0 0) 1 24 Tryd.underlying55 hi_.out hy0.out hy1.out hy2.out rfl (by decide) _ _ _ rfl (v1.out.alloc _) ⟨W1.heap.size, 0, none⟩ 1 1 [.slice Ap lv cp] rfl rfl (cell_one_new _ _ _) (by simp [Value.oneCell']) hc1 hc2 hbs ?_; intro v' w2 ho2 hg2 _; obtain ⟨g5', cap5, rfl⟩ := ownsRow_succ ho2; have hg2' : (W1.alloc (.cells #[.slice Ap lv cp] 27)).grownBy w2 (A5.map (·.block)) := (ownBlock_slice A5 pre.length c5) ▸ hg2; replace hg2 := hg2'; have hA5 := StJ.app5 hJ1.out k5.out v1.out v2.out v3.out hlv.out hp1.out ho2 hg2; have hKF2 := Lib.hid (hKF.out.trans (KeepsFrom.app (B := W4.heap.size) v1.out hg2 ⟨w.heap.size + 1, 0, none⟩ (.slice (some ⟨g5', 0, none⟩) (pre.length + 1) cap5))); have cc5 := hA5.1.cell 0; have ff5 := hA5.1.frozen 0; have hJ2 := Lib.hid hA5.2; have k6w := blk_grownE (k6.out.alloc (.cells #[.slice Ap lv cp] 27)) (v1.out.alloc _) (by decide) hg2; have c6c := k6w.cell 0; have k6s := Lib.hid (blk_setT k6w hA5.1 (by decide) 0 (.slice (some ⟨g5', 0, none⟩) (pre.length + 1) cap5)); have v6s := Lib.hid (own_setT (own_apart (k6'.out.alloc (.cells #[.slice Ap lv cp] 27)) (v1.out.alloc _) (by decide) hg2) hA5.1 (by decide) 0 (.slice (some ⟨g5', 0, none⟩) (pre.length + 1) cap5)); have c6d := k6s.out.cell 0; have hbs2 : W4.heap.size ≤ ((w2.setCell ⟨w.heap.size + 1, 0, none⟩ (.slice (some ⟨g5', 0, none⟩) (pre.length + 1) cap5)).alloc (.cells #[.bool G] 4)).heap.size := Nat.le_trans hJ2.out.size0 (by simp); replace hbs2 := Lib.hid hbs2; have hcn : Hid (∀ (j : Nat) (u : Value), [Value.bool G][j]? = some u → ((w2.setCell ⟨w.heap.size + 1, 0, none⟩ (.slice (some ⟨g5', 0, none⟩) (pre.length + 1) cap5)).alloc (.cells #[.bool G] 4)).cell? ((⟨w2.heap.size, 0, none⟩ : Addr).add j) = some u) := (fun j u hu => by have h := cell_one_new (w2.setCell ⟨w.heap.size + 1, 0, none⟩ (.slice (some ⟨g5', 0, none⟩) (pre.length + 1) cap5)) (.bool G) 4 j u hu; rwa [World.size_setCell] at h); clear hA5 ho2 hg2 hg2' v1 v2 v3 k5 k6 k6' k6w) | (gi_at_builtin; refine wpListIn_append_own _ rfl _ _ 67 rfl W4.heap.size 4 i3 (.bool false) 1 1 Tryd.underlying67 hk.out hw0.out hw1.out hw2.out rfl (by decide) _ _ _ rfl (v6s.out.alloc _) ⟨w2.heap.size, 0, none⟩ 1 1 [.bool G] rfl rfl hcn.out (by simp [Value.oneCell']) hc1 hc3 hbs2.out ?_; intro v'' w5 ho5 hg5 _; obtain ⟨g6', cap6, rfl⟩ := ownsRow_succ ho5; have hg5' : ((w2.setCell ⟨w.heap.size + 1, 0, none⟩ (.slice (some ⟨g5', 0, none⟩) (pre.length + 1) cap5)).alloc (.cells #[.bool G] 4)).grownBy w5 (A6.map (·.block)) := (ownBlock_slice A6 pre.length c6) ▸ hg5; have hA6 := StJ.app6 hJ2.out k6s.out v6s.out ho5 hg5'; have hKF3 := Lib.hid (hKF2.out.trans (KeepsFrom.app (B := W4.heap.size) v6s.out hg5' ⟨w.heap.size + 1 + 1, 0, none⟩ (.slice (some ⟨g6', 0, none⟩) (pre.length + 1) cap6))); have cc6 := hA6.1.cell 0; have ff6 := hA6.1.frozen 0; have hJ3 := Lib.hid hA6.2; clear hA6 ho5 hg5 hg5' hcn hbs2 c6c c6d))
    refine ⟨hKF3.out, StJ.cellsK hJ.out hJ3.out, ?_⟩
    have h3 := hJ3.out
    simp only [List.length_append, List.length_singleton, List.map_append, List.map_cons, List.map_nil]
    rw [hBx.out, hV.out, hG.out, Stp.badL_snoc, List.length_map, ← List.append_assoc, ← Nat.add_assoc at_]
    exact h3
  case done =>
    rintro D ys W hD rfl hI hK
    rw [List.length_finRange, Stp.fin_map q (fun i => Crcp.cutV (Stp.chunkB xs ce i)), Stp.fin_map q (fun i => Stp.goodB (Stp.chunkB xs ce i))] at hI
    have hcl : Hid ((Stp.partsB q ce xs).length = q) := Stp.partsB_len ..
    have hcL : Hid (∀ x ∈ Stp.partsB q ce xs, x.length = ch + 4) := by
      rw [Hid, HCE.out]
      exact Stp.partsB_all (by rw [HRD.out.len]; exact HL.out)
    have e1 : (List.range q).map (fun i => Crcp.cutV (Stp.chunkB xs ce i)) = Stp.cutL (Stp.partsB q ce xs) := by unfold Stp.cutL Stp.partsB; rw [List.map_map]; rfl
    have e2 : (List.range q).map (fun i => Stp.goodB (Stp.chunkB xs ce i)) = Stp.goodL (Stp.partsB q ce xs) := by unfold Stp.goodL Stp.partsB; rw [List.map_map]; rfl
    rw [e1, e2] at hI
    clear e1 e2
    generalize hcs : Stp.partsB q ce xs = cs at *
    replace hcs := Lib.hid hcs
    have hJ := Lib.hid hI
    obtain ⟨hr2, ⟨A5, c5, h5, h5'⟩, ⟨A6, c6, h6, h6'⟩, ⟨Ab, nb, cb, hnb, hne, hd⟩, hBw, q5, q6, -, -, -, -, -⟩ := hI
    have hDlt : D < W.heap.size := lt_of_heap hK
    have hDw : w.heap.size ≤ D := Nat.le_trans hW4s hD
    have SB : Hid (∀ V, Below W.heap.size W V → V.cell? ⟨w.heap.size, 0, none⟩ = some (.pointer (some ⟨g, 0, none⟩)) ∧ V.cell? ⟨g, 0, none⟩ = some (.int .i64 k) ∧ V.cell? ⟨g, 1, none⟩ = some (.int .i64 m) ∧ V.cell? ⟨w.heap.size + 1, 0, none⟩ = some (.slice A5 q c5) ∧ V.cell? ⟨w.heap.size + 1 + 1, 0, none⟩ = some (.slice A6 q c6)) := fun V hV =>
      ⟨(hr2.below hV hr2.lt).cell 0, (hd.blk.below hV hd.blk.lt).cell 0, (hd.blk.below hV hd.blk.lt).cell 1, (h5.below hV h5.lt).cell 0, (h6.below hV h6.lt).cell 0⟩
    have hS0 := SB.out W.drew (Below.refl _ _).drew
    have hD0 : Below W.heap.size W W.drew := (Below.refl _ _).drew
    have KM := mend_in k m q A5 A6 c5 c6 (Stp.cutL cs) (Stp.goodL cs) W.drew HQ.out k1 km (h5'.below hD0).rows8 (Reads.of_own (own_belowL h6' hD0)) (fun x hx => by
      unfold Stp.cutL at hx
      obtain ⟨y, hy, rfl⟩ := List.mem_map.1 hx
      have := Stp.cutV_le (hcL.out y hy); omega)
    have hme := Stp.cs_mendE k1 HQ.out km hcl.out hcL.out
    have hmv := Lib.hid (fun h0 => Stp.cs_mendV k1 HQ.out km hcl.out hcL.out h0)
    have hcE : Stp.csE k m cs = if Rsp.mendE k m (Stp.cutL cs) (Stp.goodL cs) = 0 then (if Stp.clash (k + m) (Stp.goodL cs) (Stp.cutL cs) (Rsp.mendV k m (Stp.cutL cs) (Stp.goodL cs)) = true then 2 else 0) else Rsp.mendE k m (Stp.cutL cs) (Stp.goodL cs) := rfl
    have hcV : Stp.csV k m cs = ((Rsp.mendV k m (Stp.cutL cs) (Stp.goodL cs)).take k).flatten := rfl
    have hgl : Hid ((Stp.goodL cs).length = q) := by rw [Hid, Stp.goodL_len]; exact hcl.out
    have hpl : Hid ((Stp.cutL cs).length = q) := by rw [Hid, Stp.cutL_len]; exact hcl.out
    have hpL : Hid (∀ x ∈ Stp.cutL cs, x.length ≤ 4096) := fun x hx => by
      unfold Stp.cutL at hx
      obtain ⟨y, hy, rfl⟩ := List.mem_map.1 hx
      have := Stp.cutV_le (hcL.out y hy); omega
    generalize Rsp.mendV k m (Stp.cutL cs) (Stp.goodL cs) = V at *
    generalize Rsp.mendE k m (Stp.cutL cs) (Stp.goodL cs) = er at *
    unfold LsErr at KM
    replace hcE := Lib.hid hcE; replace hcV := Lib.hid hcV
    replace KM := Lib.hid KM
    replace hr2 := Lib.hid hr2; replace h5 := Lib.hid h5; replace h5' := Lib.hid h5'; replace h6 := Lib.hid h6; replace h6' := Lib.hid h6'; replace hd := Lib.hid hd; replace hBw := Lib.hid hBw; replace hD0 := Lib.hid hD0
    replace hK := Lib.hid hK
    by_cases he : er = 0
    · subst he
      have hmv0 := hmv.out rfl
      obtain ⟨hVn, hVl⟩ := hmv0
      rw [hVn] at KM
      rw [if_pos rfl] at hcE
      have VN := Lib.hid hVn
      have VL := Lib.hid hVl
      clear hme hmv hVn hVl
      generalize Stp.cutL cs = PA at *
      generalize hGO : Stp.goodL cs = GO at *
      replace hGO := Lib.hid hGO
      go_wp2_with fail
      refine region_E 18 (fun V => V.cell? ⟨w.heap.size, 0, none⟩ = some (.pointer (some ⟨g, 0, none⟩)) ∧ V.cell? ⟨g, 0, none⟩ = some (.int .i64 k) ∧ V.cell? ⟨g, 1, none⟩ = some (.int .i64 m) ∧ V.cell? ⟨w.heap.size + 1, 0, none⟩ = some (.slice A5 q c5) ∧ V.cell? ⟨w.heap.size + 1 + 1, 0, none⟩ = some (.slice A6 q c6)) (by kernel_rfl) hS0 (fun hHeld => ?_)
      refine took 0 (v := ?_) rfl (by kernel_rfl) (by kernel_rfl) (by kernel_rfl) (by kernel_rfl) (fun _ _ _ h => h) (by rfl) (by assumption) ?_ ?_
      rotate_left
      · (intro W hSw; (try dsimp only at hSw); go_simp; first | done | with_reducible rfl)
      try simp only [Act.put, List.setIfInBounds_toArray, List.set_cons_zero, List.set_cons_succ]
      refine took 1 (v := ?_) rfl (by kernel_rfl) (by kernel_rfl) (by kernel_rfl) (by kernel_rfl) (fun _ _ _ h => h) (by rfl) (by assumption) ?_ ?_
      rotate_left
      · (intro W hSw; (try dsimp only at hSw); go_simp; first | done | with_reducible rfl)
      try simp only [Act.put, List.setIfInBounds_toArray, List.set_cons_zero, List.set_cons_succ]
      refine took 2 (v := ?_) rfl (by kernel_rfl) (by kernel_rfl) (by kernel_rfl) (by kernel_rfl) (fun _ _ _ h => h) (by rfl) (by assumption) ?_ ?_
      rotate_left
      · (intro W hSw; (try dsimp only at hSw); go_simp; first | done | with_reducible rfl)
      try simp only [Act.put, List.setIfInBounds_toArray, List.set_cons_zero, List.set_cons_succ]
      refine took 3 (v := ?_) rfl (by kernel_rfl) (by kernel_rfl) (by kernel_rfl) (by kernel_rfl) (fun _ _ _ h => h) (by rfl) (by assumption) ?_ ?_
      rotate_left
      · (intro W hSw; (try dsimp only at hSw); go_simp; first | done | with_reducible rfl)
      try simp only [Act.put, List.setIfInBounds_toArray, List.set_cons_zero, List.set_cons_succ]
      refine took 4 (v := ?_) rfl (by kernel_rfl) (by kernel_rfl) (by kernel_rfl) (by kernel_rfl) (fun _ _ _ h => h) (by rfl) (by assumption) ?_ ?_
      rotate_left
      · (intro W hSw; (try dsimp only at hSw); go_simp; first | done | with_reducible rfl)
      try simp only [Act.put, List.setIfInBounds_toArray, List.set_cons_zero, List.set_cons_succ]
      refine took 5 (v := ?_) rfl (by kernel_rfl) (by kernel_rfl) (by kernel_rfl) (by kernel_rfl) (fun _ _ _ h => h) (by rfl) (by assumption) ?_ ?_
      rotate_left
      · (intro W hSw; (try dsimp only at hSw); go_simp; first | done | with_reducible rfl)
      try simp only [Act.put, List.setIfInBounds_toArray, List.set_cons_zero, List.set_cons_succ]
      refine took 6 (v := ?_) rfl (by kernel_rfl) (by kernel_rfl) (by kernel_rfl) (by kernel_rfl) (fun _ _ _ h => h) (by rfl) (by assumption) ?_ ?_
      rotate_left
      · (intro W hSw; (try dsimp only at hSw); go_simp; first | done | with_reducible rfl)
      try simp only [Act.put, List.setIfInBounds_toArray, List.set_cons_zero, List.set_cons_succ]
      refine took 7 (v := ?_) rfl (by kernel_rfl) (by kernel_rfl) (by kernel_rfl) (by kernel_rfl) (fun _ _ _ h => h) (by rfl) (by assumption) ?_ ?_
      rotate_left
      · (intro W hSw; (try dsimp only at hSw); go_simp; first | done | with_reducible rfl)
      try simp only [Act.put, List.setIfInBounds_toArray, List.set_cons_zero, List.set_cons_succ]
      refine took 8 (v := ?_) rfl (by kernel_rfl) (by kernel_rfl) (by kernel_rfl) (by kernel_rfl) (fun _ _ _ h => h) (by rfl) (by assumption) ?_ ?_
      rotate_left
      · (intro W hSw; (try dsimp only at hSw); go_simp; first | done | with_reducible rfl)
      try simp only [Act.put, List.setIfInBounds_toArray, List.set_cons_zero, List.set_cons_succ]
      refine took 9 (v := ?_) rfl (by kernel_rfl) (by kernel_rfl) (by kernel_rfl) (by kernel_rfl) (fun _ _ _ h => h) (by rfl) (by assumption) ?_ ?_
      rotate_left
      · (intro W hSw; (try dsimp only at hSw); go_simp; first | done | with_reducible rfl)
      try simp only [Act.put, List.setIfInBounds_toArray, List.set_cons_zero, List.set_cons_succ]
      refine took 10 (v := ?_) rfl (by kernel_rfl) (by kernel_rfl) (by kernel_rfl) (by kernel_rfl) (fun _ _ _ h => h) (by rfl) (by assumption) ?_ ?_
      rotate_left
      · (intro W hSw; (try dsimp only at hSw); go_simp; first | done | with_reducible rfl)
      try simp only [Act.put, List.setIfInBounds_toArray, List.set_cons_zero, List.set_cons_succ]
      refine took 11 (v := ?_) rfl (by kernel_rfl) (by kernel_rfl) (by kernel_rfl) (by kernel_rfl) (fun _ _ _ h => h) (by rfl) (by assumption) ?_ ?_
      rotate_left
      · (intro W hSw; (try dsimp only at hSw); go_simp; first | done | with_reducible rfl)
      try simp only [Act.put, List.setIfInBounds_toArray, List.set_cons_zero, List.set_cons_succ]
      refine carried 12 rfl (by kernel_rfl) (by rfl) (fun K hK => ?_)
      go_simp
      (go_at_call 47; ((with_reducible refine KM.out.mono ?_); rintro e w5 ⟨Ay, cy, rfl, hl5, hB5⟩); have HB5 := Lib.hid (below_then hD0.out hB5); have HY5 := Lib.hid hl5; clear hB5 hl5)
      refine hK.out _ _ ((SB.out _ HB5.out)) (fun hHeld => ?_)
      clear hK K
      try simp only [Act.put, List.setIfInBounds_toArray, List.set_cons_zero, List.set_cons_succ]
      refine took 13 (v := ?_) rfl (by kernel_rfl) (by kernel_rfl) (by kernel_rfl) (by kernel_rfl) (fun _ _ _ h => h) (by rfl) (by assumption) ?_ ?_
      rotate_left
      · (intro W hSw; (try dsimp only at hSw); go_simp; first | done | with_reducible rfl)
      try simp only [Act.put, List.setIfInBounds_toArray, List.set_cons_zero, List.set_cons_succ]
      refine took 14 (v := ?_) rfl (by kernel_rfl) (by kernel_rfl) (by kernel_rfl) (by kernel_rfl) (fun _ _ _ h => h) (by rfl) (by assumption) ?_ ?_
      rotate_left
      · (intro W hSw; (try dsimp only at hSw); go_simp; first | done | with_reducible rfl)
      try simp only [Act.put, List.setIfInBounds_toArray, List.set_cons_zero, List.set_cons_succ]
      refine took 15 (v := ?_) rfl (by kernel_rfl) (by kernel_rfl) (by kernel_rfl) (by kernel_rfl) (fun _ _ _ h => h) (by rfl) (by assumption) ?_ ?_
      rotate_left
      · (intro W hSw; (try dsimp only at hSw); go_simp; first | done | with_reducible rfl)
      try simp only [Act.put, List.setIfInBounds_toArray, List.set_cons_zero, List.set_cons_succ]
      refine took 16 (v := ?_) rfl (by kernel_rfl) (by kernel_rfl) (by kernel_rfl) (by kernel_rfl) (fun _ _ _ h => h) (by rfl) (by assumption) ?_ ?_
      rotate_left
      · (intro W hSw; (try dsimp only at hSw); go_simp; first | done | with_reducible rfl)
      try simp only [Act.put, List.setIfInBounds_toArray, List.set_cons_zero, List.set_cons_succ]
      refine took 17 (v := ?_) rfl (by kernel_rfl) (by kernel_rfl) (by kernel_rfl) (by kernel_rfl) (fun _ _ _ h => h) (by rfl) (by assumption) ?_ ?_
      rotate_left
      · (intro W hSw; (try dsimp only at hSw); go_simp; first | done | with_reducible rfl)
      try simp only [Act.put, List.setIfInBounds_toArray, List.set_cons_zero, List.set_cons_succ]
      refine allDone (by kernel_rfl) ?_ _
      have SB5 : Hid (∀ V, Below w5.heap.size w5 V → V.cell? ⟨w.heap.size, 0, none⟩ = some (.pointer (some ⟨g, 0, none⟩)) ∧ V.cell? ⟨g, 0, none⟩ = some (.int .i64 k) ∧ V.cell? ⟨g, 1, none⟩ = some (.int .i64 m) ∧ V.cell? ⟨w.heap.size + 1, 0, none⟩ = some (.slice A5 q c5) ∧ V.cell? ⟨w.heap.size + 1 + 1, 0, none⟩ = some (.slice A6 q c6)) := fun V hV => SB.out V (below_then HB5.out hV)
      have HL5 := Lib.hid (h5'.out.below HB5.out)
      have HF5 := Lib.hid (own_belowL h6'.out HB5.out)
      have HD5 := Lib.hid (hd.out.below HB5.out)
      have HBw5 := Lib.hid (hBw.out.trans (HB5.out.mono (Nat.le_trans HB.out (Nat.le_trans hDw (Nat.le_of_lt hDlt)))))
      have hK5 : Hid (w5.heap[D]? = some (.deferred (some []))) := (HB5.out.block D hDlt).trans hK.out
      have R5 := Lib.hid (hr2.out.below HB5.out hr2.out.lt)
      clear hHeld SB hS0 h5' h6' hd hBw hK KM HB5 h5 h6 hr2
      go_wp2_with fail
      go_loopw [58] (fun v58 wr => ∃ (x : Nat), v58 = .int .i64 (x : Nat) ∧ x ≤ q ∧ Hid (∀ y, y < x → GO.getD y false = true → V.getD y [] = PA.getD y []) ∧ Hid (Dr w5 wr)) (fun v58 _ => q - (intOf v58).toNat)
      case atStart => exact ⟨0, rfl, Nat.zero_le _, fun y hy => by omega, Dr.refl _⟩
      case round =>
        obtain ⟨x, rfl, hxq, HX, HDr⟩ := hrel
        by_cases hlt : x < q
        · have hlt' : (x : Int) < (q : Int) := by omega
          have hx0 : (0 : Int) ≤ (x : Int) := by omega
          have hBr : Below w5.heap.size w5 wr := HDr.out.below _
          obtain ⟨ad1, ys, A1, n1, c1, hA1, -, hys, hc1, -, -, hr1⟩ := (HDr.out.rows8 HY5.out.rows8).row hlt
          obtain ⟨ad2, zs, A2, n2, c2, hA2, -, hzs, hc2, -, -, hr2⟩ := (HDr.out.rows8 HL5.out.rows8).row hlt
          obtain ⟨ad3, u, hA3, -, hu, hc3⟩ := (Reads.of_own (HDr.out.own HF5.out)).at_ hlt
          rw [List.getElem?_map, List.getElem?_eq_getElem (by rw [hgl.out]; exact hlt)] at hu
          have hu' : Value.bool (GO[x]'(by rw [hgl.out]; exact hlt)) = u := by simpa using hu
          have hGx : GO.getD x false = GO[x]'(by rw [hgl.out]; exact hlt) := by rw [List.getD_eq_getElem?_getD, List.getElem?_eq_getElem (by rw [hgl.out]; exact hlt)]; rfl
          obtain ⟨f, hf⟩ : ∃ f, GO[x]'(by rw [hgl.out]; exact hlt) = f := ⟨_, rfl⟩
          rw [hf] at hu' hGx
          subst hu'
          subst hA1 hA2 hA3
          obtain ⟨k0, k1', k2, k3, k4⟩ := SB5.out wr hBr
          have hV1 : V.getD x [] = ys := by rw [List.getD_eq_getElem?_getD, hys]; rfl
          have hP1 : PA.getD x [] = zs := by rw [List.getD_eq_getElem?_getD, hzs]; rfl
          have hn1 : n1 ≤ 1000000000000 := by
            have := hr1.len
            have := VL.out ys (List.mem_of_getElem? hys); omega
          have hn2 : n2 ≤ 1000000000000 := by
            have h1 := hr2.len
            have h2 := hpL.out zs (List.mem_of_getElem? hzs); omega
          have KE := Lib.hid (equal_any A1 A2 n1 n2 c1 c2 _ _ ys zs wr hr1 hr2 hn1 hn2)
          replace hys := Lib.hid hys; replace hzs := Lib.hid hzs; replace hGx := Lib.hid hGx; replace hV1 := Lib.hid hV1; replace hP1 := Lib.hid hP1
          clear hu hf hr1 hr2 hBr
          cases f with
          | false =>
            clear KE
            go_wp2_with fail
            go_roundw
            case rel =>
              refine ⟨x + 1, by go_num, by omega, fun y hy hg => ?_, HDr⟩
              by_cases h : y < x
              · exact HX.out y h hg
              · have : y = x := by omega
                subst this
                rw [hGx.out] at hg; cases hg
            case measure => simp [intOf]; omega
          | true =>
            by_cases hyz : ys = zs
            · rw [decide_eq_true hyz] at KE
              go_wp2_with fail
              refine KE.out.mono ?_; rintro e w6 ⟨rfl, hD6⟩
              have HD6 := Lib.hid (HDr.out.trans hD6)
              clear KE hD6
              go_wp2_with fail
              go_roundw
              case rel =>
                refine ⟨x + 1, by go_num, by omega, fun y hy hg => ?_, HD6⟩
                by_cases h : y < x
                · exact HX.out y h hg
                · have : y = x := by omega
                  subst this
                  rw [hV1.out, hP1.out]; exact hyz
              case measure => simp [intOf]; omega
            · rw [decide_eq_false hyz] at KE
              have h2 := hcE.out
              rw [if_pos (Stp.clash_yes (by rw [HQ.out]; exact hlt) hGx.out (by rw [hV1.out, hP1.out]; exact hyz))] at h2
              replace h2 := Lib.hid h2
              go_wp2_with fail
              refine KE.out.mono ?_; rintro e w6 ⟨rfl, hD6⟩
              have HD6 := HDr.out.trans hD6
              have hB6 : Below w5.heap.size w5 w6 := HD6.below _
              have hK6 : w6.heap[D]? = some (.deferred (some [])) := (hB6.block D (lt_of_heap hK5.out)).trans hK5.out
              have hb5 : base ≤ w5.heap.size := Nat.le_trans HD5.out.ge (Nat.le_of_lt HD5.out.blk.lt)
              have hBW6 := Lib.hid (HBw5.out.trans (hB6.mono hb5))
              replace hK6 := Lib.hid hK6
              clear KE hD6 HD6 hB6
              go_wp2_with fail
              refine ⟨by simp, .inl ⟨_, _, rfl, run_takeDeferred hK6.out, ?_⟩⟩
              refine ⟨_, results_tmp rfl _ _ _, ?_⟩
              unfold StRet
              rw [hcs.out, h2.out]
              refine ⟨rfl, ?_, fun h => absurd h (by decide)⟩
              exact hBW6.out.trans (belowK_b (w := w) HB.out w6 D _ _ hDw hK6.out rfl rfl)
        · have hge : ¬ (x : Int) < (q : Int) := by omega
          obtain rfl : x = q := by omega
          have hE0 : Hid (Stp.csE k m cs = 0) := by
            have h2 := hcE.out
            rw [Stp.clash_no (fun y hy hg => HX.out y (by rw [← HQ.out]; exact hy) hg)] at h2
            exact h2
          have hBr : Below w5.heap.size w5 wr := HDr.out.below _
          have hb5 : base ≤ w5.heap.size := Nat.le_trans HD5.out.ge (Nat.le_of_lt HD5.out.blk.lt)
          obtain ⟨W7, hW7⟩ : ∃ W7, W7 = wr := ⟨_, rfl⟩
          subst hW7
          have HD7 := Lib.hid (HD5.out.below hBr)
          have R7 := Lib.hid (R5.out.below hBr R5.out.lt)
          have HY7 := HY5.out.below hBr
          have HBw7 := Lib.hid (HBw5.out.trans (hBr.mono hb5))
          have hK7 : Hid (W7.heap[D]? = some (.deferred (some []))) := (hBr.block D (lt_of_heap hK5.out)).trans hK5.out
          have hb7 : base ≤ W7.heap.size := Nat.le_trans hb5 hBr.size
          have SB7 : Hid (∀ V, Below W7.heap.size W7 V → V.cell? ⟨w.heap.size, 0, none⟩ = some (.pointer (some ⟨g, 0, none⟩)) ∧ V.cell? ⟨g, 3, none⟩ = some (.slice Ao no co) ∧ V.cell? ⟨g, 0, none⟩ = some (.int .i64 k)) := fun V hV => ⟨(R7.out.below hV R7.out.lt).cell 0, (HD7.out.blk.below hV HD7.out.blk.lt).cell 3, (HD7.out.blk.below hV HD7.out.blk.lt).cell 0⟩
          have hDd : Below W7.heap.size W7 W7.drew := (Below.refl _ _).drew
          have hS7 := SB7.out _ hDd
          have hkx : k ≤ x := by have := HQ.out; omega
          have hcap := HY7.cap.1
          have hkc : (k : Int) ≤ (cy : Int) := by omega
          have hk0 : (0 : Int) ≤ (k : Int) := by omega
          have hVk : ∀ y ∈ V.take k, y.length = ch := fun y hy => VL.out y (List.mem_of_mem_take hy)
          have htl : (V.take k).length = k := by rw [List.length_take, VN.out]; omega
          have htot : total ((V.take k).map (List.map B8)) = k * ch := by rw [slabs_total _ hVk, htl]
          have KC := concat8_any Ay k cy ((V.take k).map (List.map B8)) W7.drew (by omega) (by rw [htot]; omega) (slabs_rows (HY7.below hDd).rows8 hkx (Nat.le_refl _))
          rw [htot, slabs_flat] at KC
          rw [← hcV.out] at KC
          generalize hM : k * ch = M at *
          replace hM := Lib.hid hM
          replace KC := Lib.hid KC
          obtain ⟨i0, hi, hz0, hz1, hz2⟩ := info_parts info_u8
          replace hi := Lib.hid hi; replace hz0 := Lib.hid hz0; replace hz1 := Lib.hid hz1; replace hz2 := Lib.hid hz2
          have hm1 : no + M ≤ maxLen := by unfold maxLen; omega
          have hm2 : (no + M) * 1 ≤ 140737488355328 := by omega
          replace hDd := Lib.hid hDd
          clear HX HDr hVk htl htot HY7 hBr HD5 R5 HY5 HBw5 hK5 SB5 HL5 HF5
          go_wp2_with fail
          refine region_E 14 (fun V => V.cell? ⟨w.heap.size, 0, none⟩ = some (.pointer (some ⟨g, 0, none⟩)) ∧ V.cell? ⟨g, 3, none⟩ = some (.slice Ao no co) ∧ V.cell? ⟨g, 0, none⟩ = some (.int .i64 k)) (by kernel_rfl) hS7 (fun hHeld => ?_)
          refine took 0 (v := ?_) rfl (by kernel_rfl) (by kernel_rfl) (by kernel_rfl) (by kernel_rfl) (fun _ _ _ h => h) (by rfl) (by assumption) ?_ ?_
          rotate_left
          · (intro W hSw; (try dsimp only at hSw); go_simp; first | done | with_reducible rfl)
          try simp only [Act.put, List.setIfInBounds_toArray, List.set_cons_zero, List.set_cons_succ]
          refine took 1 (v := ?_) rfl (by kernel_rfl) (by kernel_rfl) (by kernel_rfl) (by kernel_rfl) (fun _ _ _ h => h) (by rfl) (by assumption) ?_ ?_
          rotate_left
          · (intro W hSw; (try dsimp only at hSw); go_simp; first | done | with_reducible rfl)
          try simp only [Act.put, List.setIfInBounds_toArray, List.set_cons_zero, List.set_cons_succ]
          refine took 2 (v := ?_) rfl (by kernel_rfl) (by kernel_rfl) (by kernel_rfl) (by kernel_rfl) (fun _ _ _ h => h) (by rfl) (by assumption) ?_ ?_
          rotate_left
          · (intro W hSw; (try dsimp only at hSw); go_simp; first | done | with_reducible rfl)
          try simp only [Act.put, List.setIfInBounds_toArray, List.set_cons_zero, List.set_cons_succ]
          refine took 3 (v := ?_) rfl (by kernel_rfl) (by kernel_rfl) (by kernel_rfl) (by kernel_rfl) (fun _ _ _ h => h) (by rfl) (by assumption) ?_ ?_
          rotate_left
          · (intro W hSw; (try dsimp only at hSw); go_simp; first | done | with_reducible rfl)
          try simp only [Act.put, List.setIfInBounds_toArray, List.set_cons_zero, List.set_cons_succ]
          refine took 4 (v := ?_) rfl (by kernel_rfl) (by kernel_rfl) (by kernel_rfl) (by kernel_rfl) (fun _ _ _ h => h) (by rfl) (by assumption) ?_ ?_
          rotate_left
          · (intro W hSw; (try dsimp only at hSw); go_simp; first | done | with_reducible rfl)
          try simp only [Act.put, List.setIfInBounds_toArray, List.set_cons_zero, List.set_cons_succ]
          refine took 5 (v := ?_) rfl (by kernel_rfl) (by kernel_rfl) (by kernel_rfl) (by kernel_rfl) (fun _ _ _ h => h) (by rfl) (by assumption) ?_ ?_
          rotate_left
          · (intro W hSw; (try dsimp only at hSw); go_simp; first | done | with_reducible rfl)
          try simp only [Act.put, List.setIfInBounds_toArray, List.set_cons_zero, List.set_cons_succ]
          refine took 6 (v := ?_) rfl (by kernel_rfl) (by kernel_rfl) (by kernel_rfl) (by kernel_rfl) (fun _ _ _ h => h) (by rfl) (by assumption) ?_ ?_
          rotate_left
          · (intro W hSw; (try dsimp only at hSw); go_simp; first | done | with_reducible rfl)
          try simp only [Act.put, List.setIfInBounds_toArray, List.set_cons_zero, List.set_cons_succ]
          refine took 7 (v := ?_) rfl (by kernel_rfl) (by kernel_rfl) (by kernel_rfl) (by kernel_rfl) (fun _ _ _ h => h) (by rfl) (by assumption) ?_ ?_
          rotate_left
          · (intro W hSw; (try dsimp only at hSw); go_simp; first | done | with_reducible rfl)
          try simp only [Act.put, List.setIfInBounds_toArray, List.set_cons_zero, List.set_cons_succ]
          refine took 8 (v := ?_) rfl (by kernel_rfl) (by kernel_rfl) (by kernel_rfl) (by kernel_rfl) (fun _ _ _ h => h) (by rfl) (by assumption) ?_ ?_
          rotate_left
          · (intro W hSw; (try dsimp only at hSw); go_simp; first | done | with_reducible rfl)
          try simp only [Act.put, List.setIfInBounds_toArray, List.set_cons_zero, List.set_cons_succ]
          refine took 9 (v := ?_) rfl (by kernel_rfl) (by kernel_rfl) (by kernel_rfl) (by kernel_rfl) (fun _ _ _ h => h) (by rfl) (by assumption) ?_ ?_
          rotate_left
          · (intro W hSw; (try dsimp only at hSw); go_simp; first | done | with_reducible rfl)
          try simp only [Act.put, List.setIfInBounds_toArray, List.set_cons_zero, List.set_cons_succ]
          refine took 10 (v := ?_) rfl (by kernel_rfl) (by kernel_rfl) (by kernel_rfl) (by kernel_rfl) (fun _ _ _ h => h) (by rfl) (by assumption) ?_ ?_
          rotate_left
          · (intro W hSw; (try dsimp only at hSw); go_simp; first | done | with_reducible rfl)
          try simp only [Act.put, List.setIfInBounds_toArray, List.set_cons_zero, List.set_cons_succ]
          refine took 11 (v := ?_) rfl (by kernel_rfl) (by kernel_rfl) (by kernel_rfl) (by kernel_rfl) (fun _ _ _ h => h) (by rfl) (by assumption) ?_ ?_
          rotate_left
          · (intro W hSw; (try dsimp only at hSw); go_simp; first | done | with_reducible rfl)
          try simp only [Act.put, List.setIfInBounds_toArray, List.set_cons_zero, List.set_cons_succ]
          refine carried 12 rfl (by kernel_rfl) (by rfl) (fun K hK => ?_)
          go_simp
          (go_at_call 49; ((with_reducible refine KC.out.mono ?_); rintro e w8 ⟨Ac, cc, rfl, ho8, hB8⟩); have HB8 := Lib.hid (below_then hDd.out hB8); have HO8 := Lib.hid ho8; have HD8 := Lib.hid (HD7.out.below HB8.out); have R8 := Lib.hid (R7.out.below HB8.out R7.out.lt); have hb8 : base ≤ w8.heap.size := Nat.le_trans hb7 HB8.out.size; clear ho8 hB8)
          refine hK.out _ _ ((SB7.out _ HB8.out)) (fun hHeld => ?_)
          clear hK K
          try simp only [Act.put, List.setIfInBounds_toArray, List.set_cons_zero, List.set_cons_succ]
          refine carriedL 13 rfl (by kernel_rfl) (fun K hK => ?_)
          (refine step_append_any _ (by rfl) _ _ _ (by rfl) base 5 i0 (.int .u8 0) 1 1 Tryd.underlying27 hi.out hz0.out hz1.out hz2.out rfl (by omega) Ao no co _ (by rfl) HD8.out.oo w8.heap.size Ac M cc _ (by rfl) (Reads.of_own HO8.out) (row_one (Reads.of_own HO8.out)) hm1 hm2 hb8 ?_; intro A3 c3 w9 ho9 hg9 _hs9; have hb9 : Blk w9 g 65 _ := blk_grownR HD8.out.blk HD8.out.oo (by decide) hg9; have k9 := blk_grownE R8.out HD8.out.oo (by decide) hg9)
          refine hK.out _ _ (⟨k9.cell 0, hb9.cell 3, hb9.cell 0⟩) (fun hHeld => ?_)
          clear hK K
          try simp only [Act.put, List.setIfInBounds_toArray, List.set_cons_zero, List.set_cons_succ]
          have kf9 := hb9.frozen 3
          refine lately 14 rfl (by kernel_rfl) (by decide) (by rfl) (fun K hK => ?_)
          go_simp
          refine hK.out _ _ ?_
          clear hK K
          try simp only [Act.put, List.setIfInBounds_toArray, List.set_cons_zero, List.set_cons_succ]
          refine lately 15 rfl (by kernel_rfl) (by decide) (by rfl) (fun K hK => ?_)
          go_simp
          refine hK.out _ _ ?_
          clear hK K
          try simp only [Act.put, List.setIfInBounds_toArray, List.set_cons_zero, List.set_cons_succ]
          refine lately 16 rfl (by kernel_rfl) (by decide) (by rfl) (fun K hK => ?_)
          go_simp
          refine hK.out _ _ ?_
          clear hK K
          try simp only [Act.put, List.setIfInBounds_toArray, List.set_cons_zero, List.set_cons_succ]
          refine allDone (by kernel_rfl) ?_ _
          have hK8 : w8.heap[D]? = some (.deferred (some [])) := (HB8.out.block D (lt_of_heap hK7.out)).trans hK7.out
          have hK9 : w9.heap[D]? = some (.deferred (some [])) := (hg9.block D (lt_of_heap hK8) (fun e => by
            obtain ⟨cs', fr, hc⟩ := own_row HD8.out.oo D e.symm
            rw [hK8] at hc; cases hc)).trans hK8
          have hK10 : (w9.setCell ⟨g, 3, none⟩ (.slice A3 (no + M) c3)).heap[D]? = some (.deferred (some [])) := (Below.heap_setCell w9 ⟨g, 3, none⟩ _ D (fun e => by
            have hb' : w9.heap[g]? = some (.cells _ _ _) := hb9
            rw [show D = g from e, hb'] at hK9; cases hK9)).trans hK9
          have hB9 : Below base w w9 := below_app (HBw7.out.trans (HB8.out.mono hb7)) hg9 HD8.out.oo hb8
          have hB10 := Lib.hid (hB9.setCell (p := ⟨g, 3, none⟩) HD8.out.ge (.slice A3 (no + M) c3))
          have hRF : Rdr (w9.setCell ⟨g, 3, none⟩ (.slice A3 (no + M) c3)) base g k m ch A3 (no + M) c3 Ab nb cb (at_ + x) (out ++ Stp.csV k m cs) (bd ++ Stp.badL at_ GO) := by
            refine ⟨hb9.set_ 3 _, HD8.out.ge, ?_, own_rdr (own_grownT HD8.out.ob HD8.out.oo (by decide) hg9) hb9 (by decide) _⟩
            rw [List.map_append]
            exact own_rdr ho9 hb9 (by decide) _
          replace hK10 := Lib.hid hK10; replace hRF := Lib.hid hRF
          clear hHeld hS7 hK8 hK9 hB9 ho9 hg9 _hs9 hb9 k9 kf9 KC SB7
          go_wp2_with fail
          refine ⟨by simp, .inl ⟨_, _, rfl, run_takeDeferred hK10.out, ?_⟩⟩
          refine ⟨_, results_tmp rfl _ _ _, ?_⟩
          unfold StRet
          rw [hcs.out, hE0.out, hGO.out]
          have hKA : KeepAll (w9.setCell ⟨g, 3, none⟩ (.slice A3 (no + M) c3)) ((w9.setCell ⟨g, 3, none⟩ (.slice A3 (no + M) c3)).putObj D (.deferred none)) := KeepAll.of_grown (grownBy_putObj' _ D _) (fun r e => by cases e; exact ⟨_, hK10.out, rfl⟩)
          refine ⟨rfl, hB10.out.trans (belowK_b (w := w) HB.out _ D _ _ hDw hK10.out rfl rfl), fun _ => ⟨A3, no + M, c3, Ab, nb, cb, hnb, hKA.blk hRF.out.blk, hRF.out.ge, hKA.own hRF.out.oo, hKA.own hRF.out.ob⟩⟩
    · have e1 : (er == (0 : Int)) = false := by simp [he]
      have e2 : (er != (0 : Int)) = true := by simp [he]
      have hcE2 : Hid (Stp.csE k m cs = er) := by rw [Hid, hcE.out, if_neg he]
      clear hme hmv hcE hcV
      go_wp2_with fail
      refine region_E 18 (fun V => V.cell? ⟨w.heap.size, 0, none⟩ = some (.pointer (some ⟨g, 0, none⟩)) ∧ V.cell? ⟨g, 0, none⟩ = some (.int .i64 k) ∧ V.cell? ⟨g, 1, none⟩ = some (.int .i64 m) ∧ V.cell? ⟨w.heap.size + 1, 0, none⟩ = some (.slice A5 q c5) ∧ V.cell? ⟨w.heap.size + 1 + 1, 0, none⟩ = some (.slice A6 q c6)) (by kernel_rfl) hS0 (fun hHeld => ?_)
      refine took 0 (v := ?_) rfl (by kernel_rfl) (by kernel_rfl) (by kernel_rfl) (by kernel_rfl) (fun _ _ _ h => h) (by rfl) (by assumption) ?_ ?_
      rotate_left
      · (intro W hSw; (try dsimp only at hSw); go_simp; first | done | with_reducible rfl)
      try simp only [Act.put, List.setIfInBounds_toArray, List.set_cons_zero, List.set_cons_succ]
      refine took 1 (v := ?_) rfl (by kernel_rfl) (by kernel_rfl) (by kernel_rfl) (by kernel_rfl) (fun _ _ _ h => h) (by rfl) (by assumption) ?_ ?_
      rotate_left
      · (intro W hSw; (try dsimp only at hSw); go_simp; first | done | with_reducible rfl)
      try simp only [Act.put, List.setIfInBounds_toArray, List.set_cons_zero, List.set_cons_succ]
      refine took 2 (v := ?_) rfl (by kernel_rfl) (by kernel_rfl) (by kernel_rfl) (by kernel_rfl) (fun _ _ _ h => h) (by rfl) (by assumption) ?_ ?_
      rotate_left
      · (intro W hSw; (try dsimp only at hSw); go_simp; first | done | with_reducible rfl)
      try simp only [Act.put, List.setIfInBounds_toArray, List.set_cons_zero, List.set_cons_succ]
      refine took 3 (v := ?_) rfl (by kernel_rfl) (by kernel_rfl) (by kernel_rfl) (by kernel_rfl) (fun _ _ _ h => h) (by rfl) (by assumption) ?_ ?_
      rotate_left
      · (intro W hSw; (try dsimp only at hSw); go_simp; first | done | with_reducible rfl)
      try simp only [Act.put, List.setIfInBounds_toArray, List.set_cons_zero, List.set_cons_succ]
      refine took 4 (v := ?_) rfl (by kernel_rfl) (by kernel_rfl) (by kernel_rfl) (by kernel_rfl) (fun _ _ _ h => h) (by rfl) (by assumption) ?_ ?_
      rotate_left
      · (intro W hSw; (try dsimp only at hSw); go_simp; first | done | with_reducible rfl)
      try simp only [Act.put, List.setIfInBounds_toArray, List.set_cons_zero, List.set_cons_succ]
      refine took 5 (v := ?_) rfl (by kernel_rfl) (by kernel_rfl) (by kernel_rfl) (by kernel_rfl) (fun _ _ _ h => h) (by rfl) (by assumption) ?_ ?_
      rotate_left
      · (intro W hSw; (try dsimp only at hSw); go_simp; first | done | with_reducible rfl)
      try simp only [Act.put, List.setIfInBounds_toArray, List.set_cons_zero, List.set_cons_succ]
      refine took 6 (v := ?_) rfl (by kernel_rfl) (by kernel_rfl) (by kernel_rfl) (by kernel_rfl) (fun _ _ _ h => h) (by rfl) (by assumption) ?_ ?_
      rotate_left
      · (intro W hSw; (try dsimp only at hSw); go_simp; first | done | with_reducible rfl)
      try simp only [Act.put, List.setIfInBounds_toArray, List.set_cons_zero, List.set_cons_succ]
      refine took 7 (v := ?_) rfl (by kernel_rfl) (by kernel_rfl) (by kernel_rfl) (by kernel_rfl) (fun _ _ _ h => h) (by rfl) (by assumption) ?_ ?_
      rotate_left
      · (intro W hSw; (try dsimp only at hSw); go_simp; first | done | with_reducible rfl)
      try simp only [Act.put, List.setIfInBounds_toArray, List.set_cons_zero, List.set_cons_succ]
      refine took 8 (v := ?_) rfl (by kernel_rfl) (by kernel_rfl) (by kernel_rfl) (by kernel_rfl) (fun _ _ _ h => h) (by rfl) (by assumption) ?_ ?_
      rotate_left
      · (intro W hSw; (try dsimp only at hSw); go_simp; first | done | with_reducible rfl)
      try simp only [Act.put, List.setIfInBounds_toArray, List.set_cons_zero, List.set_cons_succ]
      refine took 9 (v := ?_) rfl (by kernel_rfl) (by kernel_rfl) (by kernel_rfl) (by kernel_rfl) (fun _ _ _ h => h) (by rfl) (by assumption) ?_ ?_
      rotate_left
      · (intro W hSw; (try dsimp only at hSw); go_simp; first | done | with_reducible rfl)
      try simp only [Act.put, List.setIfInBounds_toArray, List.set_cons_zero, List.set_cons_succ]
      refine took 10 (v := ?_) rfl (by kernel_rfl) (by kernel_rfl) (by kernel_rfl) (by kernel_rfl) (fun _ _ _ h => h) (by rfl) (by assumption) ?_ ?_
      rotate_left
      · (intro W hSw; (try dsimp only at hSw); go_simp; first | done | with_reducible rfl)
      try simp only [Act.put, List.setIfInBounds_toArray, List.set_cons_zero, List.set_cons_succ]
      refine took 11 (v := ?_) rfl (by kernel_rfl) (by kernel_rfl) (by kernel_rfl) (by kernel_rfl) (fun _ _ _ h => h) (by rfl) (by assumption) ?_ ?_
      rotate_left
      · (intro W hSw; (try dsimp only at hSw); go_simp; first | done | with_reducible rfl)
      try simp only [Act.put, List.setIfInBounds_toArray, List.set_cons_zero, List.set_cons_succ]
      refine carried 12 rfl (by kernel_rfl) (by rfl) (fun K hK => ?_)
      go_simp
      (go_at_call 47; ((with_reducible refine KM.out.mono ?_); rintro e w5 ⟨Ay, cy, rfl, hl5, hB5⟩); have HB5 := Lib.hid (below_then hD0.out hB5); clear hB5 hl5)
      refine hK.out _ _ ((SB.out _ HB5.out)) (fun hHeld => ?_)
      clear hK K
      try simp only [Act.put, List.setIfInBounds_toArray, List.set_cons_zero, List.set_cons_succ]
      refine took 13 (v := ?_) rfl (by kernel_rfl) (by kernel_rfl) (by kernel_rfl) (by kernel_rfl) (fun _ _ _ h => h) (by rfl) (by assumption) ?_ ?_
      rotate_left
      · (intro W hSw; (try dsimp only at hSw); go_simp; first | done | with_reducible rfl)
      try simp only [Act.put, List.setIfInBounds_toArray, List.set_cons_zero, List.set_cons_succ]
      refine took 14 (v := ?_) rfl (by kernel_rfl) (by kernel_rfl) (by kernel_rfl) (by kernel_rfl) (fun _ _ _ h => h) (by rfl) (by assumption) ?_ ?_
      rotate_left
      · (intro W hSw; (try dsimp only at hSw); go_simp; first | done | with_reducible rfl)
      try simp only [Act.put, List.setIfInBounds_toArray, List.set_cons_zero, List.set_cons_succ]
      refine took 15 (v := ?_) rfl (by kernel_rfl) (by kernel_rfl) (by kernel_rfl) (by kernel_rfl) (fun _ _ _ h => h) (by rfl) (by assumption) ?_ ?_
      rotate_left
      · (intro W hSw; (try dsimp only at hSw); go_simp; first | done | with_reducible rfl)
      try simp only [Act.put, List.setIfInBounds_toArray, List.set_cons_zero, List.set_cons_succ]
      refine took 16 (v := ?_) rfl (by kernel_rfl) (by kernel_rfl) (by kernel_rfl) (by kernel_rfl) (fun _ _ _ h => h) (by rfl) (by assumption) ?_ ?_
      rotate_left
      · (intro W hSw; (try dsimp only at hSw); go_simp; first | done | with_reducible rfl)
      try simp only [Act.put, List.setIfInBounds_toArray, List.set_cons_zero, List.set_cons_succ]
      refine took 17 (v := ?_) rfl (by kernel_rfl) (by kernel_rfl) (by kernel_rfl) (by kernel_rfl) (fun _ _ _ h => h) (by rfl) (by assumption) ?_ ?_
      rotate_left
      · (intro W hSw; (try dsimp only at hSw); go_simp; first | done | with_reducible rfl)
      try simp only [Act.put, List.setIfInBounds_toArray, List.set_cons_zero, List.set_cons_succ]
      refine allDone (by kernel_rfl) ?_ _
      clear hHeld SB hS0
      go_wp2_with fail
      have hB6 := HB5.out
      have hK6 : w5.heap[D]? = some (.deferred (some [])) := (hB6.block D hDlt).trans hK.out
      refine ⟨by simp, .inl ⟨_, _, rfl, run_takeDeferred hK6, ?_⟩⟩
      refine ⟨_, results_tmp rfl _ _ _, ?_⟩
      unfold StRet
      rw [hcs.out, hcE2.out]
      refine ⟨rfl, ?_, fun h => absurd h he⟩
      exact (hBw.out.trans (hB6.mono (Nat.le_trans HB.out (Nat.le_trans hDw (Nat.le_of_lt hDlt))))).trans (belowK_b (w := w) HB.out w5 D _ _ hDw hK6 rfl rfl)
  case stop =>
    rintro D c pre W _ _ h _
    exact h.elim
end Go.Proofs.YtjbedcgacnnanaaDoor
