/-
  Two lists of lists beside each other, and flags; and, plainly: flags taken away.
-/
import Derived.Test.YtjbedcgacnnanaaDoorRsw
namespace Go.Proofs.YtjbedcgacnnanaaDoor
set_option linter.unusedSimpArgs false
set_option linter.unusedVariables false
open Go.RowKit

section
variable {W W' W4 : World} {b0 base n c : Nat} {A : Option Addr} {xs : List UInt8} {xss : List (List UInt8)}
/-- whatever happens to one block that is none of the row's -/
theorem RowOK.far {cA g : Nat} (h : RowOK W b0 base A cA xs) (h0 : b0 ≤ base) (hb : base ≤ W.heap.size) (hg : base ≤ g) (ht : ∃ cs fr E, W.heap[g]? = some (.cells cs E fr) ∧ E ≠ 5) (hW : ∀ k, k < W.heap.size → k ≠ g → W'.heap[k]? = W.heap[k]?) : RowOK W' b0 base A cA xs := by
  obtain ⟨h1, h2, h3⟩ := h
  obtain ⟨cs, fr, E, hgE, hE⟩ := ht
  refine ⟨h1, h2, ?_⟩
  rcases h3 with h3 | h3
  · exact .inl (h3.keep fun p hp => World.cell?_of_block (hW p.block (by omega) (by omega)))
  · refine .inr (ownsRow_block h3 (fun a ha => ?_))
    obtain ⟨cs', fr', hh⟩ := own_row h3 a.block (by rw [ha]; rfl)
    refine hW _ (lt_of_heap hh) (fun e => ?_)
    rw [e, hgE] at hh
    injection hh with hh
    injection hh with _ ht
    exact hE ht
theorem Lists.far {g : Nat} (h : Lists W b0 base A n c xss) (hg : base ≤ g) (hA : A.map (·.block) ≠ some g) (ht : ∃ cs fr E, W.heap[g]? = some (.cells cs E fr) ∧ E ≠ 5) (hW : ∀ k, k < W.heap.size → k ≠ g → W'.heap[k]? = W.heap[k]?) (hs : W.heap.size ≤ W'.heap.size) : Lists W' b0 base A n c xss := by
  obtain ⟨⟨vs, h1, h2, h3⟩, hb, h0⟩ := h
  refine ⟨⟨vs, ownsRow_block h1 (fun a ha => ?_), h2, fun i xs hi => ?_⟩, Nat.le_trans hb hs, h0⟩
  · obtain ⟨cs', fr', hh⟩ := own_row h1 a.block (by rw [ha]; rfl)
    exact hW _ (lt_of_heap hh) (fun e => hA (by rw [ha]; show some a.block = _; rw [e]))
  · obtain ⟨Ai, ci, a1, a2⟩ := h3 i xs hi
    exact ⟨Ai, ci, a1, a2.far h0 hb hg ht hW⟩
theorem grown_none {W W4 : World} (hg : W.grownBy W4 none) : Below W.heap.size W W4 := ⟨hg.os, hg.tape, hg.output, hg.size, fun k hk => hg.block k hk (by simp)⟩
/-- another list grows -/
theorem Lists.beside {base' n' c' : Nat} {A' : Option Addr} {ys : List Value} (h : Lists W b0 base A n c xss) (ho : W.ownsRow base' 27 1 (.slice A' n' c') n' ys) (hne : ∀ g, A'.map (·.block) = some g → A.map (·.block) ≠ some g) (hb' : base ≤ base') (hg : W.grownBy W4 (A'.map (·.block))) : Lists W4 b0 base A n c xss := by
  cases A' with
  | none => exact h.below (grown_none hg)
  | some a =>
    obtain ⟨cs, fr, hh⟩ := own_row ho a.block rfl
    exact h.far (Nat.le_trans hb' (ho.lt a.block rfl).1) (hne _ rfl) ⟨cs, fr, _, hh, by decide⟩ (fun k hk hne => hg.block k hk (by simpa using hne)) hg.size
theorem RowOK.beside {cA base' n' c' : Nat} {A' : Option Addr} {ys : List Value} (h : RowOK W b0 base A cA xs) (h0 : b0 ≤ base) (hb : base ≤ W.heap.size) (ho : W.ownsRow base' 27 1 (.slice A' n' c') n' ys) (hb' : base ≤ base') (hg : W.grownBy W4 (A'.map (·.block))) : RowOK W4 b0 base A cA xs := by
  cases A' with
  | none => exact h.below h0 hb (grown_none hg)
  | some a =>
    obtain ⟨cs, fr, hh⟩ := own_row ho a.block rfl
    exact h.far h0 hb (Nat.le_trans hb' (ho.lt a.block rfl).1) ⟨cs, fr, _, hh, by decide⟩ (fun k hk hne => hg.block k hk (by simpa using hne))
/-- two rows lie apart: still so when one has grown -/
def Apart (A B : Option Addr) : Prop := ∀ g, A.map (·.block) = some g → B.map (·.block) ≠ some g
theorem Apart.sym {A B : Option Addr} (h : Apart A B) : Apart B A := fun g h1 h2 => h g h2 h1
theorem Apart.grow {A B A3 : Option Addr} {W : World} (h : Apart A B) (hB : ∀ g, B.map (·.block) = some g → g < W.heap.size) (hs : Stays W A A3) : Apart A3 B := fun g h1 h2 => by
  rcases hs with hs | hs
  · exact h g (hs ▸ h1) h2
  · rw [hs] at h1
    injection h1 with h1
    have := hB g h2
    omega
theorem own_lt {E : TypeId} {size n c base : Nat} {B : Option Addr} {vs : List Value} (h : W.ownsRow base E size (.slice B n c) n vs) : ∀ g, B.map (·.block) = some g → g < W.heap.size := fun g hg => (h.lt g (by rw [ownBlock_slice]; exact hg)).2
theorem lists_lt (h : Lists W b0 base A n c xss) : ∀ g, A.map (·.block) = some g → g < W.heap.size := own_lt h.ex.choose_spec.1
end
namespace Rsp
theorem gd_set_lt {g : List Bool} {a : Nat} : ∀ i, i ≤ a → gd (g.set a false) i = gd g i
  | 0, _ => rfl
  | i + 1, h => by
    have ih := gd_set_lt (g := g) (a := a) i (by omega)
    have e : (g.set a false).getD i false = g.getD i false := by rw [List.getD_eq_getElem?_getD, List.getD_eq_getElem?_getD, List.getElem?_set_ne (by omega)]
    cases hg : g.getD i false with
    | false => rw [gd_no hg, gd_no (e.trans hg), ih]
    | true => rw [gd_yes hg, gd_yes (e.trans hg), ih]
theorem gd_set {g : List Bool} {a : Nat} (ha : g.getD a false = true) : ∀ i, a < i → (gd (g.set a false) i).length + 1 = (gd g i).length
  | 0, h => by omega
  | i + 1, h => by
    by_cases e : a = i
    · subst e
      have e2 : (g.set a false).getD a false = false := by
        have hlt : a < g.length := by
          rcases Nat.lt_or_ge a g.length with h | h
          · exact h
          · rw [List.getD_eq_getElem?_getD, List.getElem?_eq_none h] at ha; cases ha
        rw [List.getD_eq_getElem?_getD, List.getElem?_set, if_pos rfl, if_pos hlt]; rfl
      rw [gd_no e2, gd_yes ha, gd_set_lt a (Nat.le_refl _), List.length_append]; rfl
    · have ih := gd_set ha i (by omega)
      have e2 : (g.set a false).getD i false = g.getD i false := by rw [List.getD_eq_getElem?_getD, List.getD_eq_getElem?_getD, List.getElem?_set_ne (by omega)]
      cases hg : g.getD i false with
      | false => rw [gd_no hg, gd_no (e2.trans hg), ih]
      | true => rw [gd_yes hg, gd_yes (e2.trans hg), List.length_append, List.length_append, ← ih]; omega
theorem gd_all (n : Nat) : ∀ i, i ≤ n → (gd (List.replicate n true) i).length = i
  | 0, _ => rfl
  | i + 1, h => by
    have e : (List.replicate n true).getD i false = true := by rw [List.getD_eq_getElem?_getD, List.getElem?_replicate, if_pos (by omega)]; rfl
    rw [gd_yes e, List.length_append, gd_all n i (by omega)]; rfl
/-- flags and lists, of which n1 are spoilt -/
structure Spoilt (q n1 : Nat) (all : List (List UInt8)) (fl : List Bool) (nw : List (List UInt8)) : Prop where
  fl_len : fl.length = q
  nw_len : nw.length = q
  same : ∀ x, fl.getD x false = true → nw.getD x [] = all.getD x []
  count : (gd fl q).length + n1 = q
theorem Spoilt.start (q : Nat) (all : List (List UInt8)) (h : all.length = q) : Spoilt q 0 all (List.replicate q true) all := ⟨by simp, h, fun _ _ => rfl, by rw [gd_all q q (Nat.le_refl _)]; rfl⟩
theorem Spoilt.spoil {q n1 a : Nat} {all nw : List (List UInt8)} {fl : List Bool} {by_ : List UInt8} (h : Spoilt q n1 all fl nw) (ha : a < q) (hf : fl.getD a false = true) : Spoilt q (n1 + 1) all (fl.set a false) (nw.set a by_) := by
  refine ⟨by rw [List.length_set, h.fl_len], by rw [List.length_set, h.nw_len], fun x hx => ?_, ?_⟩
  · by_cases e : x = a
    · subst e
      rw [List.getD_eq_getElem?_getD, List.getElem?_set, if_pos rfl, if_pos (by rw [h.fl_len]; exact ha)] at hx
      cases hx
    · rw [List.getD_eq_getElem?_getD, List.getElem?_set_ne (by omega)] at hx
      rw [List.getD_eq_getElem?_getD, List.getElem?_set_ne (by omega)]
      have := h.same x (by rw [List.getD_eq_getElem?_getD]; exact hx)
      rw [List.getD_eq_getElem?_getD] at this
      exact this
  · have := gd_set hf q ha
    have := h.count
    omega
/-- what is spoilt is mended -/
theorem Spoilt.mend {n p q n1 L : Nat} {d : List (List UInt8)} {fl : List Bool} {nw : List (List UInt8)} (h : Spoilt q n1 (allV n p L d) fl nw) (hnp : n + p = q) (h1 : 1 ≤ n) (hq : q ≤ 255) (hn1 : n1 ≤ p) (hd : d.length = n) (hL : ∀ x ∈ d, x.length = L) :
    mendE n p nw fl = 0 ∧ mendV n p nw fl = allV n p L d := by
  have hal := allV_all (n := n) (p := p) hL
  have hall := allV_len (p := p) (L := L) hd
  have hc := h.count
  obtain ⟨e, d', hd', hL', hV, hsame, hdef⟩ := mend_good (n := n) (p := p) (L := L) (l := nw) (g := fl) hnp h1 hq h.nw_len h.fl_len (fun x hx hf => by
    rw [h.same x hf, List.getD_eq_getElem?_getD, List.getElem?_eq_getElem (by omega : x < (allV n p L d).length)]
    exact hal _ (List.getElem_mem _)) (by omega)
  refine ⟨e, ?_⟩
  rw [hV]
  have hfn : (fst n fl q).length = n := by rw [fst_len]; omega
  have hrows : rowsAt nw (fst n fl q) = rowsAt (allV n p L d) (fst n fl q) := by
    unfold rowsAt
    exact List.map_congr_left fun x hx => h.same x (fst_good hx)
  have hdd : d' = d := by
    rw [hdef, hrows]
    exact data_back (by omega) h1 hfn (fst_nodup _ _ _) (fun x hx => by have := fst_lt hx; omega) hd hL
  rw [hdd]
end Rsp
end Go.Proofs.YtjbedcgacnnanaaDoor
