/-
  Lists of lists of bytes that a call makes (the list its own, the rows its own or older): read, kept, appended to, stored into. And, plainly: what a matrix makes of lists.
-/
import Derived.Test.YtjbedcgacnnanaaDoorRsc
import Derived.Test.YtjbedcgacnnanaaDoorBm
import Derived.Test.YtjbedcgacnnanaaDoorBn
import Derived.Test.YtjbedcgacnnanaaDoorBl
namespace Go.Proofs.YtjbedcgacnnanaaDoor
set_option linter.unusedSimpArgs false
set_option linter.unusedVariables false
open Go.RowKit

/-- a row: older than the call, or the call's own -/
def RowOK (W : World) (b0 base : Nat) (A : Option Addr) (c : Nat) (xs : List UInt8) : Prop :=
  xs.length ≤ c ∧ c ≤ maxLen ∧ (Reads W b0 1 A xs.length (xs.map B8) ∨ W.ownsRow base 5 1 (.slice A xs.length c) xs.length (xs.map B8))
/-- a list of lists of the call's own -/
structure Lists (W : World) (b0 base : Nat) (A : Option Addr) (n c : Nat) (xss : List (List UInt8)) : Prop where
  ex : ∃ vs : List Value, W.ownsRow base 27 1 (.slice A n c) n vs ∧ xss.length = n ∧ ∀ (i : Nat) (xs : List UInt8), xss[i]? = some xs → ∃ (Ai : Option Addr) (ci : Nat), vs[i]? = some (.slice Ai xs.length ci) ∧ RowOK W b0 base Ai ci xs
  bs : base ≤ W.heap.size
  b0s : b0 ≤ base
section
variable {W W' : World} {b0 base n c : Nat} {A : Option Addr} {xs : List UInt8} {xss : List (List UInt8)}
theorem RowOK.below (h : RowOK W b0 base A c xs) (h0 : b0 ≤ base) (hb : base ≤ W.heap.size) (hB : Below W.heap.size W W') : RowOK W' b0 base A c xs := by
  obtain ⟨h1, h2, h3⟩ := h
  refine ⟨h1, h2, ?_⟩
  rcases h3 with h3 | h3
  · exact .inl (h3.keep fun p hp => hB.cell (by omega))
  · exact .inr (own_belowL h3 hB)
theorem RowOK.reads (h : RowOK W b0 base A c xs) (h0 : b0 ≤ base) (hb : base ≤ W.heap.size) : Reads W W.heap.size 1 A xs.length (xs.map B8) := by
  obtain ⟨h1, h2, h3⟩ := h
  rcases h3 with h3 | h3
  · exact h3.more (Nat.le_trans h0 hb)
  · exact Reads.of_own h3
/-- whatever happens to a block of lists of the call's own leaves the rows -/
theorem RowOK.other {gA : Nat} {cs : Array Value} {fr : Nat × Nat} (h : RowOK W b0 base A c xs) (h0 : b0 ≤ base) (hg : W.heap[gA]? = some (.cells cs 27 fr)) (hgA : base ≤ gA) (hW : ∀ g, g < W.heap.size → g ≠ gA → W'.heap[g]? = W.heap[g]?) : RowOK W' b0 base A c xs := by
  obtain ⟨h1, h2, h3⟩ := h
  have hlt := lt_of_heap hg
  refine ⟨h1, h2, ?_⟩
  rcases h3 with h3 | h3
  · exact .inl (h3.keep fun p hp => World.cell?_of_block (hW p.block (by omega) (by omega)))
  · refine .inr (ownsRow_block h3 (fun a ha => ?_))
    obtain ⟨cs', fr', hh⟩ := own_row h3 a.block (by rw [ha]; rfl)
    refine hW _ (lt_of_heap hh) (fun e => ?_)
    rw [e, hg] at hh
    injection hh with hh
    injection hh with _ ht
    exact absurd ht (by decide)
theorem Lists.below (h : Lists W b0 base A n c xss) (hB : Below W.heap.size W W') : Lists W' b0 base A n c xss := by
  obtain ⟨⟨vs, h1, h2, h3⟩, hb, h0⟩ := h
  refine ⟨⟨vs, own_belowL h1 hB, h2, fun i xs hi => ?_⟩, Nat.le_trans hb hB.size, h0⟩
  obtain ⟨Ai, ci, a1, a2⟩ := h3 i xs hi
  exact ⟨Ai, ci, a1, a2.below h0 hb hB⟩
theorem Lists.drew (h : Lists W b0 base A n c xss) : Lists W.drew b0 base A n c xss := ⟨h.ex, h.bs, h.b0s⟩
theorem Lists.drewN (h : Lists W b0 base A n c xss) (k : Nat) : Lists (W.drewN k) b0 base A n c xss := ⟨h.ex, h.bs, h.b0s⟩
theorem Lists.len (h : Lists W b0 base A n c xss) : xss.length = n := h.ex.choose_spec.2.1
theorem Lists.cap (h : Lists W b0 base A n c xss) : n ≤ c ∧ c ≤ maxLen := own_cap h.ex.choose_spec.1
theorem Lists.rows8 (h : Lists W b0 base A n c xss) : Rows8 W W.heap.size A n xss := by
  obtain ⟨⟨vs, h1, h2, h3⟩, hb, h0⟩ := h
  refine ⟨vs, Reads.of_own h1, h2, fun i xs hi => ?_⟩
  obtain ⟨Ai, ci, a1, a2⟩ := h3 i xs hi
  exact ⟨Ai, xs.length, ci, a1, a2.1, a2.2.1, a2.reads h0 hb⟩
theorem Lists.nil (w : World) (b0 base : Nat) (h0 : b0 ≤ base) (hb : base ≤ w.heap.size) : Lists w b0 base none 0 0 [] :=
  ⟨⟨[], World.ownsRow_nil _ _ _ 1, rfl, fun i xs hi => by simp at hi⟩, hb, h0⟩
theorem Lists.vals {vs : List Value} (h : W.ownsRow base 27 1 (.slice A n c) n vs) (hl : xss.length = n) (hr : ∀ (i : Nat) (xs : List UInt8), xss[i]? = some xs → ∃ (Ai : Option Addr) (ci : Nat), vs[i]? = some (.slice Ai xs.length ci) ∧ RowOK W b0 base Ai ci xs) (h0 : b0 ≤ base) (hb : base ≤ W.heap.size) : Lists W b0 base A n c xss := ⟨⟨vs, h, hl, hr⟩, hb, h0⟩
/-- the same, for older bases -/
theorem RowOK.older {b0' base' : Nat} (h : RowOK W b0 base A c xs) (h0 : b0 ≤ b0') (hb : base' ≤ base) : RowOK W b0' base' A c xs := by
  obtain ⟨h1, h2, h3⟩ := h
  refine ⟨h1, h2, ?_⟩
  rcases h3 with h3 | h3
  · exact .inl (h3.more h0)
  · exact .inr (own_base h3 hb)
theorem Lists.older {b0' base' : Nat} (h : Lists W b0 base A n c xss) (h0 : b0 ≤ b0') (h1 : b0' ≤ base') (hb : base' ≤ base) : Lists W b0' base' A n c xss := by
  obtain ⟨⟨vs, a1, a2, a3⟩, hbs, _⟩ := h
  refine ⟨⟨vs, own_base a1 hb, a2, fun i xs hi => ?_⟩, Nat.le_trans hb hbs, h1⟩
  obtain ⟨Ai, ci, b1, b2⟩ := a3 i xs hi
  exact ⟨Ai, ci, b1, b2.older h0 hb⟩
end
/-- a row is appended: behind append(l, row) -/
theorem Lists.push {W W4 : World} {b0 base n c cr c3 : Nat} {A A3 Ar : Option Addr} {xss : List (List UInt8)} {xs : List UInt8} (hr : RowOK W b0 base Ar cr xs) {vs : List Value} (h1 : W.ownsRow base 27 1 (.slice A n c) n vs)
    (h2 : xss.length = n) (h3 : ∀ (i : Nat) (xs : List UInt8), xss[i]? = some xs → ∃ (Ai : Option Addr) (ci : Nat), vs[i]? = some (.slice Ai xs.length ci) ∧ RowOK W b0 base Ai ci xs) (h0 : b0 ≤ base) (hb : base ≤ W.heap.size)
    (ho4 : W4.ownsRow base 27 1 (.slice A3 (n + 1) c3) (n + 1) (vs ++ [.slice Ar xs.length cr])) (hg4 : W.grownBy W4 (A.map (·.block))) :
    Lists W4 b0 base A3 (n + 1) c3 (xss ++ [xs]) := by
  have keep : ∀ (A' : Option Addr) (c' : Nat) (ys : List UInt8), RowOK W b0 base A' c' ys → RowOK W4 b0 base A' c' ys := fun A' c' ys ho => by
    rcases A with _ | ad
    · obtain ⟨o1, o2, o3⟩ := ho
      refine ⟨o1, o2, ?_⟩
      rcases o3 with o3 | o3
      · exact .inl (o3.keep fun p hp => World.cell?_of_block (hg4.block p.block (by omega) (by simp)))
      · refine .inr (ownsRow_block o3 (fun a ha => ?_))
        obtain ⟨cs, fr, hh⟩ := own_row o3 a.block (by rw [ha]; rfl)
        exact hg4.block _ (lt_of_heap hh) (by simp)
    · obtain ⟨cs, fr, hh⟩ := own_row h1 ad.block rfl
      have hbg : base ≤ ad.block := (h1.lt ad.block rfl).1
      exact ho.other h0 hh hbg (fun g hg hne => hg4.block g hg (by simpa using hne))
  have hl : vs.length = n := by have := h1.1; omega
  refine ⟨⟨_, ho4, by simp [h2], fun i ys hi => ?_⟩, Nat.le_trans hb hg4.size, h0⟩
  by_cases e : i < n
  · rw [List.getElem?_append_left (by omega)] at hi
    obtain ⟨Ai, ci, a1, a2⟩ := h3 i ys hi
    exact ⟨Ai, ci, by rw [List.getElem?_append_left (by omega)]; exact a1, keep _ _ _ a2⟩
  · have hin : i = n := by
      have := (List.getElem?_eq_some_iff.1 hi).1
      simp at this; omega
    subst hin
    rw [List.getElem?_append_right (by omega), h2, Nat.sub_self] at hi
    have : ys = xs := by simpa using hi.symm
    subst this
    exact ⟨Ar, cr, by rw [List.getElem?_append_right (by omega), hl, Nat.sub_self]; rfl, keep _ _ _ hr⟩
theorem Lists.pushN {W W4 : World} {b0 base n c cr c3 L : Nat} {A A3 Ar : Option Addr} {xss : List (List UInt8)} {xs : List UInt8} (hl : xs.length = L) (hr : RowOK W b0 base Ar cr xs) {vs : List Value} (h1 : W.ownsRow base 27 1 (.slice A n c) n vs)
    (h2 : xss.length = n) (h3 : ∀ (i : Nat) (xs : List UInt8), xss[i]? = some xs → ∃ (Ai : Option Addr) (ci : Nat), vs[i]? = some (.slice Ai xs.length ci) ∧ RowOK W b0 base Ai ci xs) (h0 : b0 ≤ base) (hb : base ≤ W.heap.size)
    (ho4 : W4.ownsRow base 27 1 (.slice A3 (n + 1) c3) (n + 1) (vs ++ [.slice Ar L cr])) (hg4 : W.grownBy W4 (A.map (·.block))) :
    Lists W4 b0 base A3 (n + 1) c3 (xss ++ [xs]) := by subst hl; exact Lists.push hr h1 h2 h3 h0 hb ho4 hg4
/-- a slot is stored into -/
theorem Lists.set_ {W : World} {b0 base n c gA i ci : Nat} {Ar : Option Addr} {xss : List (List UInt8)} {xs : List UInt8} (h : Lists W b0 base (some ⟨gA, 0, none⟩) n c xss) (hi : i < n) (hr : RowOK W b0 base Ar ci xs) :
    Lists (W.setCell ⟨gA, i, none⟩ (.slice Ar xs.length ci)) b0 base (some ⟨gA, 0, none⟩) n c (xss.set i xs) := by
  obtain ⟨⟨vs, h1, h2, h3⟩, hb, h0⟩ := h
  obtain ⟨cs, fr, hh⟩ := own_row h1 gA rfl
  have hbg : base ≤ gA := (h1.lt gA rfl).1
  have keep : ∀ (A' : Option Addr) (c' : Nat) (ys : List UInt8), RowOK W b0 base A' c' ys → RowOK (W.setCell ⟨gA, i, none⟩ (.slice Ar xs.length ci)) b0 base A' c' ys := fun A' c' ys ho =>
    ho.other h0 hh hbg (fun g hg hne => Below.heap_setCell W _ _ g (by simpa using hne))
  have hl : vs.length = n := by have := h1.1; omega
  refine ⟨⟨vs.set i (.slice Ar xs.length ci), (h1.stored i _).1, by simp [h2], fun j ys hj => ?_⟩, by simpa using hb, h0⟩
  rw [List.getElem?_set] at hj ⊢
  by_cases e : i = j
  · subst e
    rw [if_pos rfl, if_pos (by omega)] at hj
    injection hj with hj
    subst hj
    exact ⟨Ar, ci, by rw [if_pos rfl, if_pos (by omega)], keep _ _ _ hr⟩
  · rw [if_neg e] at hj
    obtain ⟨Ai, ci', a1, a2⟩ := h3 j ys hj
    exact ⟨Ai, ci', by rw [if_neg e]; exact a1, keep _ _ _ a2⟩
theorem Lists.slot {W : World} {b0 base n c gA i : Nat} {xss : List (List UInt8)} (h : Lists W b0 base (some ⟨gA, 0, none⟩) n c xss) (hi : i < n) : (∃ v, W.cell? ⟨gA, i, none⟩ = some v) ∧ W.frozen? ⟨gA, i, none⟩ = false := by
  obtain ⟨⟨vs, h1, h2, h3⟩, hb, h0⟩ := h
  refine ⟨?_, h1.frozenAt i⟩
  rw [h1.cellAt i (by omega)]
  have hl : i < vs.length := by have := h1.1; omega
  exact ⟨vs[i], List.getElem?_eq_getElem hl⟩
theorem Lists.setN {W : World} {b0 base n c gA i ci L : Nat} {Ar : Option Addr} {xss : List (List UInt8)} {xs : List UInt8} (h : Lists W b0 base (some ⟨gA, 0, none⟩) n c xss) (hi : i < n) (hl : xs.length = L) (hr : RowOK W b0 base Ar ci xs) :
    Lists (W.setCell ⟨gA, i, none⟩ (.slice Ar L ci)) b0 base (some ⟨gA, 0, none⟩) n c (xss.set i xs) := by subst hl; exact h.set_ hi hr
/-- a row of the call's own -/
theorem RowOK.own {W : World} {b0 base c L : Nat} {A : Option Addr} {xs : List UInt8} (h : W.ownsRow base 5 1 (.slice A L c) L (xs.map B8)) : xs.length = L ∧ RowOK W b0 base A c xs := by
  have hl : xs.length = L := by have := h.1; simpa using this
  subst hl
  exact ⟨rfl, (own_cap h).1, (own_cap h).2, .inr h⟩

/-! plainly -/
namespace Rsp
/-- byte n of the t-th list -/
def at_ (l : List (List UInt8)) (t n : Nat) : UInt8 := (l.getD t []).getD n 0
/-- what a row (C elements) makes of lists of L bytes, up to its j-th element -/
def rowP (j L : Nat) (f : Nat → UInt8) (l : List (List UInt8)) : List UInt8 := rowF L fun n => Lin.sum (fun t => fm (f t) (at_ l t n)) j
def timesP (R C L : Nat) (f : Nat → Nat → UInt8) (l : List (List UInt8)) : List (List UInt8) := (List.range R).map fun i => rowP C L (f i) l
theorem rowP_len (j L : Nat) (f : Nat → UInt8) (l : List (List UInt8)) : (rowP j L f l).length = L := rowF_len _ _
theorem rowP_zero (L : Nat) (f : Nat → UInt8) (l : List (List UInt8)) : rowP 0 L f l = List.replicate L 0 := by
  apply List.ext_getElem?
  intro t
  unfold rowP
  by_cases h : t < L
  · rw [rowF_get _ _ _ h, List.getElem?_replicate, if_pos h]; rfl
  · rw [List.getElem?_eq_none (by rw [rowF_len]; omega), List.getElem?_replicate, if_neg h]
theorem rowP_get (j L : Nat) (f : Nat → UInt8) (l : List (List UInt8)) (n : Nat) (h : n < L) : (rowP j L f l).getD n 0 = Lin.sum (fun t => fm (f t) (at_ l t n)) j := by
  rw [List.getD_eq_getElem?_getD]; unfold rowP; rw [rowF_get _ _ _ h]; rfl
theorem rowP_add (j L : Nat) (f : Nat → UInt8) (l : List (List UInt8)) (b : List UInt8) (hb : l[j]? = some b) (hl : b.length = L) : addR (rowP j L f l) (f j) b = rowP (j + 1) L f l := by
  unfold addR
  rw [rowP_len, if_pos hl.symm]
  have hg : l.getD j [] = b := by rw [List.getD_eq_getElem?_getD, hb]; rfl
  unfold addL
  rw [rowP_len]
  apply List.map_congr_left
  intro n hn
  have := List.mem_range.1 hn
  rw [rowP_get _ _ _ _ _ this]
  show _ = Lin.sum _ j ^^^ fm (f j) (at_ l j n)
  have e : at_ l j n = b.getD n 0 := by unfold at_; rw [hg]
  rw [e]
theorem rowP_skip (j L : Nat) (f : Nat → UInt8) (l : List (List UInt8)) (h : f j = 0) : rowP (j + 1) L f l = rowP j L f l := by
  apply List.map_congr_left
  intro n hn
  show Lin.sum _ j ^^^ fm (f j) _ = _
  rw [h, zero_fm, fx_zero]
theorem timesP_len (R C L : Nat) (f : Nat → Nat → UInt8) (l : List (List UInt8)) : (timesP R C L f l).length = R := by simp [timesP]
theorem timesP_get (R C L : Nat) (f : Nat → Nat → UInt8) (l : List (List UInt8)) (i : Nat) (h : i < R) : (timesP R C L f l)[i]? = some (rowP C L (f i) l) := by
  unfold timesP
  rw [List.getElem?_map, List.getElem?_range h]; rfl
theorem timesP_step (R C L : Nat) (f : Nat → Nat → UInt8) (l : List (List UInt8)) : timesP (R + 1) C L f l = timesP R C L f l ++ [rowP C L (f R) l] := by
  unfold timesP
  rw [List.range_succ, List.map_append]; rfl
theorem times_set (R C L i : Nat) (f : Nat → Nat → UInt8) (l : List (List UInt8)) (h : i < R) : (timesP i C L f l ++ List.replicate (R - i) []).set i (rowP C L (f i) l) = timesP (i + 1) C L f l ++ List.replicate (R - (i + 1)) [] := by
  apply List.ext_getElem?
  intro t
  rw [List.getElem?_set, List.length_append, timesP_len, List.length_replicate]
  by_cases e : i = t
  · subst e
    rw [if_pos rfl, if_pos (by omega), List.getElem?_append_left (by rw [timesP_len]; omega), timesP_get _ _ _ _ _ _ (by omega)]
  · rw [if_neg e]
    by_cases h1 : t < i
    · rw [List.getElem?_append_left (by rw [timesP_len]; omega), List.getElem?_append_left (by rw [timesP_len]; omega), timesP_get _ _ _ _ _ _ (by omega), timesP_get _ _ _ _ _ _ (by omega)]
    · rw [List.getElem?_append_right (by rw [timesP_len]; omega), List.getElem?_append_right (by rw [timesP_len]; omega), timesP_len, timesP_len, List.getElem?_replicate, List.getElem?_replicate]
      by_cases h2 : t < R
      · rw [if_pos (by omega), if_pos (by omega)]
      · rw [if_neg (by omega), if_neg (by omega)]
theorem timesP_all (R C L : Nat) (f : Nat → Nat → UInt8) (l : List (List UInt8)) (x : List UInt8) (h : x ∈ timesP R C L f l) : x.length = L := by
  unfold timesP at h
  obtain ⟨i, _, rfl⟩ := List.mem_map.1 h
  exact rowP_len ..
theorem at_times (R C L : Nat) (f : Nat → Nat → UInt8) (l : List (List UInt8)) (i n : Nat) (h : i < R) (hn : n < L) : at_ (timesP R C L f l) i n = Lin.mm C f (at_ l) i n := by
  have e : (timesP R C L f l).getD i [] = rowP C L (f i) l := by rw [List.getD_eq_getElem?_getD, timesP_get _ _ _ _ _ _ h]; rfl
  show ((timesP R C L f l).getD i []).getD n 0 = _
  rw [e]
  exact rowP_get _ _ _ _ _ hn
theorem timesP_congr {R C L : Nat} {f g : Nat → Nat → UInt8} {l : List (List UInt8)} (h : ∀ i j, i < R → j < C → f i j = g i j) : timesP R C L f l = timesP R C L g l := by
  apply List.map_congr_left
  intro i hi
  apply List.map_congr_left
  intro n hn
  exact Lin.sum_congr C fun t ht => by rw [h i t (List.mem_range.1 hi) ht]
/-- a list of lists is its bytes -/
theorem lists_ext {L : Nat} {l m : List (List UInt8)} (hl : l.length = m.length) (h1 : ∀ x ∈ l, x.length = L) (h2 : ∀ x ∈ m, x.length = L) (h : ∀ i n, i < l.length → n < L → at_ l i n = at_ m i n) : l = m := by
  apply List.ext_getElem?
  intro i
  by_cases hi : i < l.length
  · have hi' : i < m.length := by omega
    rw [List.getElem?_eq_getElem hi, List.getElem?_eq_getElem hi']
    congr 1
    have a1 := h1 _ (List.getElem_mem hi)
    have a2 := h2 _ (List.getElem_mem hi')
    apply list_ext_getD (by omega)
    intro n hn
    have := h i n hi (by omega)
    have e1 : l.getD i [] = l[i] := by rw [List.getD_eq_getElem?_getD, List.getElem?_eq_getElem hi]; rfl
    have e2 : m.getD i [] = m[i] := by rw [List.getD_eq_getElem?_getD, List.getElem?_eq_getElem hi']; rfl
    unfold at_ at this
    rw [e1, e2] at this
    exact this
  · rw [List.getElem?_eq_none (by omega), List.getElem?_eq_none (by omega)]
end Rsp
end Go.Proofs.YtjbedcgacnnanaaDoor
