/-
  What is read of stripes, plainly.
-/
import Derived.Test.YtjbedcgacnnanaaDoorSti
namespace Go.Proofs.YtjbedcgacnnanaaDoor
set_option linter.unusedSimpArgs false
set_option linter.unusedVariables false
open Go.RowKit

namespace Stp
/-- the first error of the first t ones -/
def firstE (e : Nat → Int) : Nat → Int
  | 0 => 0
  | t + 1 => if firstE e t = 0 then e t else firstE e t
theorem firstE_all {e : Nat → Int} : ∀ {t : Nat}, (∀ i, i < t → e i = 0) → firstE e t = 0
  | 0, _ => rfl
  | t + 1, h => by
    show (if firstE e t = 0 then e t else firstE e t) = 0
    rw [if_pos (firstE_all fun i hi => h i (by omega))]; exact h t (by omega)
theorem firstE_at {e : Nat → Int} {t : Nat} (h : ∀ i, i < t → e i = 0) (hne : e t ≠ 0) : ∀ {S : Nat}, t < S → firstE e S = e t
  | 0, hs => by omega
  | S + 1, hs => by
    show (if firstE e S = 0 then e S else firstE e S) = e t
    by_cases h2 : t < S
    · have := firstE_at h hne h2
      rw [if_neg (by rw [this]; exact hne), this]
    · obtain rfl : t = S := by omega
      rw [if_pos (firstE_all h)]
theorem firstE_zero {e : Nat → Int} : ∀ {S : Nat}, firstE e S = 0 → ∀ i, i < S → e i = 0
  | 0, _, i, hi => by omega
  | S + 1, h, i, hi => by
    have h1 : (if firstE e S = 0 then e S else firstE e S) = 0 := h
    by_cases h2 : firstE e S = 0
    · rw [if_pos h2] at h1
      by_cases h3 : i < S
      · exact firstE_zero h2 i h3
      · obtain rfl : i = S := by omega
        exact h1
    · rw [if_neg h2] at h1; exact absurd h1 h2
theorem firstE_mem {e : Nat → Int} : ∀ {S : Nat}, firstE e S ≠ 0 → ∃ t, t < S ∧ firstE e S = e t ∧ ∀ i, i < t → e i = 0
  | 0, h => absurd rfl h
  | S + 1, h => by
    by_cases h2 : firstE e S = 0
    · exact ⟨S, by omega, by show (if firstE e S = 0 then e S else firstE e S) = e S; rw [if_pos h2], firstE_zero h2⟩
    · obtain ⟨t, a, b, c⟩ := firstE_mem h2
      exact ⟨t, by omega, by show (if firstE e S = 0 then e S else firstE e S) = e t; rw [if_neg h2, b], c⟩
/-- a chunk is good -/
def goodB (c : List UInt8) : Bool := decide (Crcp.cutE c = 0)
def goodL (cs : List (List UInt8)) : List Bool := cs.map goodB
def cutL (cs : List (List UInt8)) : List (List UInt8) := cs.map Crcp.cutV
/-- a good part that mending changes -/
def clash (q : Nat) (g : List Bool) (l v : List (List UInt8)) : Bool := (List.range q).any fun i => g.getD i false && decide (v.getD i [] ≠ l.getD i [])
/-- the chunks cs of one stripe read: the error -/
def csE (k m : Nat) (cs : List (List UInt8)) : Int := if Rsp.mendE k m (cutL cs) (goodL cs) = 0 then (if clash (k + m) (goodL cs) (cutL cs) (Rsp.mendV k m (cutL cs) (goodL cs)) = true then 2 else 0) else Rsp.mendE k m (cutL cs) (goodL cs)
/-- the chunks cs of one stripe read: the bytes -/
def csV (k m : Nat) (cs : List (List UInt8)) : List UInt8 := ((Rsp.mendV k m (cutL cs) (goodL cs)).take k).flatten
/-- the chunks of stripe t -/
def csAt (k m ch : Nat) (s : List UInt8) (t : Nat) : List (List UInt8) := partsB (k + m) (ch + 4) ((s.drop (t * ((k + m) * (ch + 4)))).take ((k + m) * (ch + 4)))
def outTo (k m ch : Nat) (s : List UInt8) (t : Nat) : List UInt8 := ((List.range t).map fun i => csV k m (csAt k m ch s i)).flatten
/-- the chunks of the first x that aren't good -/
def badTo (ce : Nat) (s : List UInt8) (x : Nat) : List Nat := (List.range x).filter fun i => !goodB (chunkB s ce i)
/-- something behind the n bytes -/
def behind (n : Nat) (o : List UInt8) : Bool := (o.drop n).any fun x => decide (x ≠ 0)
/-- the error of reading the stripes -/
def rdE (k m ch n S : Nat) (s : List UInt8) : Int := if firstE (fun t => csE k m (csAt k m ch s t)) S = 0 then (if behind n (outTo k m ch s S) = true then 2 else 0) else firstE (fun t => csE k m (csAt k m ch s t)) S
def rdV (k m ch n S : Nat) (s : List UInt8) : List UInt8 := if rdE k m ch n S s = 0 then (outTo k m ch s S).take n else []
def rdB (k m ch n S : Nat) (s : List UInt8) : List Nat := if rdE k m ch n S s = 0 then badTo (ch + 4) s (S * (k + m)) else []

theorem goodB_len {c : List UInt8} (h : goodB c = true) : 4 ≤ c.length ∧ Crcp.cutV c = c.take (c.length - 4) := by
  unfold goodB Crcp.cutE at h
  have h := of_decide_eq_true h
  unfold Crcp.cutV
  by_cases h1 : c.length < 4
  · rw [if_pos h1] at h; exact absurd h (by decide)
  · rw [if_neg h1] at h
    rw [if_neg h1]
    by_cases h2 : Crcp.cutOk c = true
    · rw [if_pos h2]; exact ⟨by omega, rfl⟩
    · rw [if_neg h2] at h; exact absurd h (by decide)
theorem cutV_bad {c : List UInt8} (h : goodB c = false) : Crcp.cutV c = [] := by
  unfold goodB Crcp.cutE at h
  have h := of_decide_eq_false h
  unfold Crcp.cutV
  by_cases h1 : c.length < 4
  · rw [if_pos h1]
  · rw [if_neg h1] at h ⊢
    by_cases h2 : Crcp.cutOk c = true
    · rw [if_pos h2] at h; exact absurd rfl h
    · rw [if_neg h2]
theorem cutV_len {c : List UInt8} {ch : Nat} (hc : c.length = ch + 4) (h : goodB c = true) : (Crcp.cutV c).length = ch := by
  rw [(goodB_len h).2, List.length_take]; omega
theorem cutV_le {c : List UInt8} {ch : Nat} (hc : c.length = ch + 4) : (Crcp.cutV c).length ≤ ch := by
  cases h : goodB c
  · rw [cutV_bad h]; exact Nat.zero_le _
  · rw [cutV_len hc h]; exact Nat.le_refl _
section
variable {k m ch q : Nat} {cs : List (List UInt8)}
theorem goodL_len : (goodL cs).length = cs.length := by simp [goodL]
theorem cutL_len : (cutL cs).length = cs.length := by simp [cutL]
theorem goodL_get {i : Nat} {c : List UInt8} (h : cs[i]? = some c) : (goodL cs)[i]? = some (goodB c) := by unfold goodL; rw [List.getElem?_map, h]; rfl
theorem cutL_get {i : Nat} {c : List UInt8} (h : cs[i]? = some c) : (cutL cs)[i]? = some (Crcp.cutV c) := by unfold cutL; rw [List.getElem?_map, h]; rfl
/-- good parts are as long as each other -/
theorem cut_alike (hL : ∀ c ∈ cs, c.length = ch + 4) : Rsp.alike (Rsp.rowsAt (cutL cs) (Rsp.gd (goodL cs) cs.length)) = true := by
  refine Rsp.alike_of (L := ch) fun x hx => ?_
  unfold Rsp.rowsAt at hx
  obtain ⟨i, hi, rfl⟩ := List.mem_map.1 hx
  have h1 := Rsp.gd_lt hi
  have h2 := Rsp.gd_good hi
  have hc : cs[i]? = some cs[i] := List.getElem?_eq_getElem h1
  rw [List.getD_eq_getElem?_getD, goodL_get hc] at h2
  rw [List.getD_eq_getElem?_getD, cutL_get hc]
  exact cutV_len (hL _ (List.getElem_mem h1)) h2
theorem cs_mendE (h1 : 1 ≤ k) (hq : k + m = q) (hq2 : q ≤ 255) (hl : cs.length = q) (hL : ∀ c ∈ cs, c.length = ch + 4) : Rsp.mendE k m (cutL cs) (goodL cs) = if (Rsp.gd (goodL cs) q).length < k then 12 else 0 := by
  have hm : Rsp.may (k : Int) (m : Int) = true := by unfold Rsp.may; exact decide_eq_true (by omega)
  have ha : Rsp.alike (Rsp.rowsAt (cutL cs) (Rsp.gd (goodL cs) (k + m))) = true := by rw [hq, ← hl]; exact cut_alike hL
  by_cases hf : (Rsp.gd (goodL cs) q).length < k
  · rw [if_pos hf]
    exact (Rsp.mend_few hm (by rw [cutL_len, hl, hq]) (by rw [goodL_len, hl, hq]) ha (by rw [hq]; exact hf)).1
  · rw [if_neg hf]
    exact (Rsp.mend_yes hm (by rw [cutL_len, hl, hq]) (by rw [goodL_len, hl, hq]) ha (by rw [hq]; omega)).1
/-- what they are mended to: as many rows as parts, each as long as a chunk's data -/
theorem cs_mendV (h1 : 1 ≤ k) (hq : k + m = q) (hq2 : q ≤ 255) (hl : cs.length = q) (hL : ∀ c ∈ cs, c.length = ch + 4) (h0 : Rsp.mendE k m (cutL cs) (goodL cs) = 0) :
    (Rsp.mendV k m (cutL cs) (goodL cs)).length = q ∧ ∀ x ∈ Rsp.mendV k m (cutL cs) (goodL cs), x.length = ch := by
  have hm : Rsp.may (k : Int) (m : Int) = true := by unfold Rsp.may; exact decide_eq_true (by omega)
  have ha : Rsp.alike (Rsp.rowsAt (cutL cs) (Rsp.gd (goodL cs) (k + m))) = true := by rw [hq, ← hl]; exact cut_alike hL
  have hf : ¬ (Rsp.gd (goodL cs) q).length < k := fun hf => by
    rw [cs_mendE h1 hq hq2 hl hL, if_pos hf] at h0; exact absurd h0 (by decide)
  have hy := (Rsp.mend_yes hm (by rw [cutL_len, hl, hq]) (by rw [goodL_len, hl, hq]) ha (by rw [hq]; omega)).2
  rw [hy]
  have hF : (Rsp.fst k (goodL cs) (k + m)).length = k := by rw [Rsp.fst_len, hq]; omega
  have hR : ∀ x ∈ Rsp.rowsAt (cutL cs) (Rsp.fst k (goodL cs) (k + m)), x.length = ch := fun x hx => by
    unfold Rsp.rowsAt at hx
    obtain ⟨i, hi, rfl⟩ := List.mem_map.1 hx
    have h1 := Rsp.fst_lt hi
    have h2 := Rsp.fst_good hi
    have hc : cs[i]? = some cs[i] := List.getElem?_eq_getElem (by omega)
    rw [List.getD_eq_getElem?_getD, goodL_get hc] at h2
    rw [List.getD_eq_getElem?_getD, cutL_get hc]
    exact cutV_len (hL _ (List.getElem_mem _)) h2
  have hDl : (Rsp.dataV k (Rsp.fst k (goodL cs) (k + m)) (Rsp.rowsAt (cutL cs) (Rsp.fst k (goodL cs) (k + m)))).length = k := Rsp.dataV_len
  have hDL := Rsp.dataV_all (n := k) (P := Rsp.fst k (goodL cs) (k + m)) hR (by rw [Rsp.rowsAt_len]; omega)
  have hp := Rsp.par_all (p := m) hm h1 hDl hDL
  rw [hp.2]
  refine ⟨by rw [List.length_append, hDl, Rsp.timesP_len, hq], fun x hx => ?_⟩
  rcases List.mem_append.1 hx with h | h
  · exact hDL x h
  · exact Rsp.timesP_all _ _ _ _ _ x h
theorem clash_no {q : Nat} {g : List Bool} {l v : List (List UInt8)} (h : ∀ i, i < q → g.getD i false = true → v.getD i [] = l.getD i []) : clash q g l v = false := by
  unfold clash
  rw [List.any_eq_false]
  intro i hi
  have hi := List.mem_range.1 hi
  simp only [Bool.and_eq_true, decide_eq_true_eq, not_and]
  intro hg hne
  exact hne (h i hi hg)
theorem clash_yes {q i : Nat} {g : List Bool} {l v : List (List UInt8)} (hi : i < q) (hg : g.getD i false = true) (h : v.getD i [] ≠ l.getD i []) : clash q g l v = true := by
  unfold clash
  rw [List.any_eq_true]
  exact ⟨i, List.mem_range.2 hi, by rw [hg, decide_eq_true h]; rfl⟩
end
theorem badTo_step (ce : Nat) (s : List UInt8) (x : Nat) : badTo ce s (x + 1) = badTo ce s x ++ (if goodB (chunkB s ce x) = true then [] else [x]) := by
  unfold badTo
  rw [List.range_succ, List.filter_append]
  congr 1
  cases h : goodB (chunkB s ce x) <;> simp [h]
theorem badTo_len (ce : Nat) (s : List UInt8) (x : Nat) : (badTo ce s x).length ≤ x := by
  unfold badTo
  exact Nat.le_trans (List.length_filter_le _ _) (by simp)
theorem outTo_step (k m ch : Nat) (s : List UInt8) (t : Nat) : outTo k m ch s (t + 1) = outTo k m ch s t ++ csV k m (csAt k m ch s t) := by
  unfold outTo
  rw [List.range_succ, List.map_append, List.flatten_append]; simp
/-- chunks of a stripe are chunks of the whole -/
theorem chunk_whole {s : List UInt8} {t q ce L i : Nat} (hL : L = q * ce) (hi : i < q) : chunkB ((s.drop (t * L)).take L) ce i = chunkB s ce (t * q + i) := by
  rw [← part_chunk (a := t * L) (d := L) (j := i) (ch := ce) (by rw [hL]; exact Nat.mul_le_mul_right _ hi)]
  unfold chunkB
  rw [Nat.add_mul, Nat.mul_assoc, ← hL]
theorem gd_succ (g : List Bool) (i : Nat) : (Rsp.gd g (i + 1)).length = (Rsp.gd g i).length + (if g.getD i false = true then 1 else 0) := by
  unfold Rsp.gd
  rw [List.range_succ, List.filter_append, List.length_append]
  congr 1
  cases h : g.getD i false with
  | false => rw [List.filter_cons_of_neg (by rw [h]; decide)]; rfl
  | true => rw [List.filter_cons_of_pos (by exact h)]; rfl
theorem behind_no {n : Nat} {o : List UInt8} (h : ∀ i, n ≤ i → i < o.length → o[i]? = some 0) : behind n o = false := by
  unfold behind
  rw [List.any_eq_false]
  intro x hx
  obtain ⟨i, hi, rfl⟩ := List.getElem_of_mem hx
  rw [List.length_drop] at hi
  have h1 := h (n + i) (by omega) (by omega)
  rw [List.getElem_drop]
  rw [List.getElem?_eq_getElem (by omega)] at h1
  injection h1 with h1
  simp [h1]
theorem behind_yes {n i : Nat} {o : List UInt8} {x : UInt8} (h : o[i]? = some x) (hi : n ≤ i) (hx : x ≠ 0) : behind n o = true := by
  unfold behind
  rw [List.any_eq_true]
  refine ⟨x, ?_, decide_eq_true hx⟩
  refine List.mem_iff_getElem?.2 ⟨i - n, ?_⟩
  rw [List.getElem?_drop, show n + (i - n) = i by omega]; exact h
end Stp
end Go.Proofs.YtjbedcgacnnanaaDoor
