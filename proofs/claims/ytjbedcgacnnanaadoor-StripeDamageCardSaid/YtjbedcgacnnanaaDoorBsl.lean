/-
  Texts put together: Stl Stn.
-/
import Derived.Test.YtjbedcgacnnanaaDoorSti
namespace Go.Proofs.YtjbedcgacnnanaaDoor
set_option linter.unusedSimpArgs false
set_option linter.unusedVariables false
open Go.RowKit

namespace Stp
/-- the first error of the first t ones -/
def firstE (e : Nat → Int) : Nat → Int
  | 0 => 0
  | t + 1 => if firstE e t = 0 then e t else firstE e t
theorem firstE_all {e : Nat → Int} : ∀ {t : Nat}, (∀ i, i < t → e i = 0) → firstE e t = 0
  | 0, _ => rfl
  | t + 1, h => by
    show (if firstE e t = 0 then e t else firstE e t) = 0
    rw [if_pos (firstE_all fun i hi => h i (by omega))]; exact h t (by omega)
theorem firstE_at {e : Nat → Int} {t : Nat} (h : ∀ i, i < t → e i = 0) (hne : e t ≠ 0) : ∀ {S : Nat}, t < S → firstE e S = e t
  | 0, hs => by omega
  | S + 1, hs => by
    show (if firstE e S = 0 then e S else firstE e S) = e t
    by_cases h2 : t < S
    · have := firstE_at h hne h2
      rw [if_neg (by rw [this]; exact hne), this]
    · obtain rfl : t = S := by omega
      rw [if_pos (firstE_all h)]
theorem firstE_zero {e : Nat → Int} : ∀ {S : Nat}, firstE e S = 0 → ∀ i, i < S → e i = 0
  | 0, _, i, hi => by omega
  | S + 1, h, i, hi => by
    have h1 : (if firstE e S = 0 then e S else firstE e S) = 0 := h
    by_cases h2 : firstE e S = 0
    · rw [if_pos h2] at h1
      by_cases h3 : i < S
      · exact firstE_zero h2 i h3
      · obtain rfl : i = S := by omega
        exact h1
    · rw [if_neg h2] at h1; exact absurd h1 h2
theorem firstE_mem {e : Nat → Int} : ∀ {S : Nat}, firstE e S ≠ 0 → ∃ t, t < S ∧ firstE e S = e t ∧ ∀ i, i < t → e i = 0
  | 0, h => absurd rfl h
  | S + 1, h => by
    by_cases h2 : firstE e S = 0
    · exact ⟨S, by omega, by show (if firstE e S = 0 then e S else firstE e S) = e S; rw [if_pos h2], firstE_zero h2⟩
    · obtain ⟨t, a, b, c⟩ := firstE_mem h2
      exact ⟨t, by omega, by show (if firstE e S = 0 then e S else firstE e S) = e t; rw [if_neg h2, b], c⟩
/-- a chunk is good -/
def goodB (c : List UInt8) : Bool := decide (Crcp.cutE c = 0)
def goodL (cs : List (List UInt8)) : List Bool := cs.map goodB
def cutL (cs : List (List UInt8)) : List (List UInt8) := cs.map Crcp.cutV
/-- a good part that mending changes -/
def clash (q : Nat) (g : List Bool) (l v : List (List UInt8)) : Bool := (List.range q).any fun i => g.getD i false && decide (v.getD i [] ≠ l.getD i [])
/-- the chunks cs of one stripe read: the error -/
def csE (k m : Nat) (cs : List (List UInt8)) : Int := if Rsp.mendE k m (cutL cs) (goodL cs) = 0 then (if clash (k + m) (goodL cs) (cutL cs) (Rsp.mendV k m (cutL cs) (goodL cs)) = true then 2 else 0) else Rsp.mendE k m (cutL cs) (goodL cs)
/-- the chunks cs of one stripe read: the bytes -/
def csV (k m : Nat) (cs : List (List UInt8)) : List UInt8 := ((Rsp.mendV k m (cutL cs) (goodL cs)).take k).flatten
/-- the chunks of stripe t -/
def csAt (k m ch : Nat) (s : List UInt8) (t : Nat) : List (List UInt8) := partsB (k + m) (ch + 4) ((s.drop (t * ((k + m) * (ch + 4)))).take ((k + m) * (ch + 4)))
def outTo (k m ch : Nat) (s : List UInt8) (t : Nat) : List UInt8 := ((List.range t).map fun i => csV k m (csAt k m ch s i)).flatten
/-- the chunks of the first x that aren't good -/
def badTo (ce : Nat) (s : List UInt8) (x : Nat) : List Nat := (List.range x).filter fun i => !goodB (chunkB s ce i)
/-- something behind the n bytes -/
def behind (n : Nat) (o : List UInt8) : Bool := (o.drop n).any fun x => decide (x ≠ 0)
/-- the error of reading the stripes -/
def rdE (k m ch n S : Nat) (s : List UInt8) : Int := if firstE (fun t => csE k m (csAt k m ch s t)) S = 0 then (if behind n (outTo k m ch s S) = true then 2 else 0) else firstE (fun t => csE k m (csAt k m ch s t)) S
def rdV (k m ch n S : Nat) (s : List UInt8) : List UInt8 := if rdE k m ch n S s = 0 then (outTo k m ch s S).take n else []
def rdB (k m ch n S : Nat) (s : List UInt8) : List Nat := if rdE k m ch n S s = 0 then badTo (ch + 4) s (S * (k + m)) else []

theorem goodB_len {c : List UInt8} (h : goodB c = true) : 4 ≤ c.length ∧ Crcp.cutV c = c.take (c.length - 4) := by
  unfold goodB Crcp.cutE at h
  have h := of_decide_eq_true h
  unfold Crcp.cutV
  by_cases h1 : c.length < 4
  · rw [if_pos h1] at h; exact absurd h (by decide)
  · rw [if_neg h1] at h
    rw [if_neg h1]
    by_cases h2 : Crcp.cutOk c = true
    · rw [if_pos h2]; exact ⟨by omega, rfl⟩
    · rw [if_neg h2] at h; exact absurd h (by decide)
theorem cutV_bad {c : List UInt8} (h : goodB c = false) : Crcp.cutV c = [] := by
  unfold goodB Crcp.cutE at h
  have h := of_decide_eq_false h
  unfold Crcp.cutV
  by_cases h1 : c.length < 4
  · rw [if_pos h1]
  · rw [if_neg h1] at h ⊢
    by_cases h2 : Crcp.cutOk c = true
    · rw [if_pos h2] at h; exact absurd rfl h
    · rw [if_neg h2]
theorem cutV_len {c : List UInt8} {ch : Nat} (hc : c.length = ch + 4) (h : goodB c = true) : (Crcp.cutV c).length = ch := by
  rw [(goodB_len h).2, List.length_take]; omega
theorem cutV_le {c : List UInt8} {ch : Nat} (hc : c.length = ch + 4) : (Crcp.cutV c).length ≤ ch := by
  cases h : goodB c
  · rw [cutV_bad h]; exact Nat.zero_le _
  · rw [cutV_len hc h]; exact Nat.le_refl _
section
variable {k m ch q : Nat} {cs : List (List UInt8)}
theorem goodL_len : (goodL cs).length = cs.length := by simp [goodL]
theorem cutL_len : (cutL cs).length = cs.length := by simp [cutL]
theorem goodL_get {i : Nat} {c : List UInt8} (h : cs[i]? = some c) : (goodL cs)[i]? = some (goodB c) := by unfold goodL; rw [List.getElem?_map, h]; rfl
theorem cutL_get {i : Nat} {c : List UInt8} (h : cs[i]? = some c) : (cutL cs)[i]? = some (Crcp.cutV c) := by unfold cutL; rw [List.getElem?_map, h]; rfl
/-- good parts are as long as each other -/
theorem cut_alike (hL : ∀ c ∈ cs, c.length = ch + 4) : Rsp.alike (Rsp.rowsAt (cutL cs) (Rsp.gd (goodL cs) cs.length)) = true := by
  refine Rsp.alike_of (L := ch) fun x hx => ?_
  unfold Rsp.rowsAt at hx
  obtain ⟨i, hi, rfl⟩ := List.mem_map.1 hx
  have h1 := Rsp.gd_lt hi
  have h2 := Rsp.gd_good hi
  have hc : cs[i]? = some cs[i] := List.getElem?_eq_getElem h1
  rw [List.getD_eq_getElem?_getD, goodL_get hc] at h2
  rw [List.getD_eq_getElem?_getD, cutL_get hc]
  exact cutV_len (hL _ (List.getElem_mem h1)) h2
theorem cs_mendE (h1 : 1 ≤ k) (hq : k + m = q) (hq2 : q ≤ 255) (hl : cs.length = q) (hL : ∀ c ∈ cs, c.length = ch + 4) : Rsp.mendE k m (cutL cs) (goodL cs) = if (Rsp.gd (goodL cs) q).length < k then 12 else 0 := by
  have hm : Rsp.may (k : Int) (m : Int) = true := by unfold Rsp.may; exact decide_eq_true (by omega)
  have ha : Rsp.alike (Rsp.rowsAt (cutL cs) (Rsp.gd (goodL cs) (k + m))) = true := by rw [hq, ← hl]; exact cut_alike hL
  by_cases hf : (Rsp.gd (goodL cs) q).length < k
  · rw [if_pos hf]
    exact (Rsp.mend_few hm (by rw [cutL_len, hl, hq]) (by rw [goodL_len, hl, hq]) ha (by rw [hq]; exact hf)).1
  · rw [if_neg hf]
    exact (Rsp.mend_yes hm (by rw [cutL_len, hl, hq]) (by rw [goodL_len, hl, hq]) ha (by rw [hq]; omega)).1
/-- what they are mended to: as many rows as parts, each as long as a chunk's data -/
theorem cs_mendV (h1 : 1 ≤ k) (hq : k + m = q) (hq2 : q ≤ 255) (hl : cs.length = q) (hL : ∀ c ∈ cs, c.length = ch + 4) (h0 : Rsp.mendE k m (cutL cs) (goodL cs) = 0) :
    (Rsp.mendV k m (cutL cs) (goodL cs)).length = q ∧ ∀ x ∈ Rsp.mendV k m (cutL cs) (goodL cs), x.length = ch := by
  have hm : Rsp.may (k : Int) (m : Int) = true := by unfold Rsp.may; exact decide_eq_true (by omega)
  have ha : Rsp.alike (Rsp.rowsAt (cutL cs) (Rsp.gd (goodL cs) (k + m))) = true := by rw [hq, ← hl]; exact cut_alike hL
  have hf : ¬ (Rsp.gd (goodL cs) q).length < k := fun hf => by
    rw [cs_mendE h1 hq hq2 hl hL, if_pos hf] at h0; exact absurd h0 (by decide)
  have hy := (Rsp.mend_yes hm (by rw [cutL_len, hl, hq]) (by rw [goodL_len, hl, hq]) ha (by rw [hq]; omega)).2
  rw [hy]
  have hF : (Rsp.fst k (goodL cs) (k + m)).length = k := by rw [Rsp.fst_len, hq]; omega
  have hR : ∀ x ∈ Rsp.rowsAt (cutL cs) (Rsp.fst k (goodL cs) (k + m)), x.length = ch := fun x hx => by
    unfold Rsp.rowsAt at hx
    obtain ⟨i, hi, rfl⟩ := List.mem_map.1 hx
    have h1 := Rsp.fst_lt hi
    have h2 := Rsp.fst_good hi
    have hc : cs[i]? = some cs[i] := List.getElem?_eq_getElem (by omega)
    rw [List.getD_eq_getElem?_getD, goodL_get hc] at h2
    rw [List.getD_eq_getElem?_getD, cutL_get hc]
    exact cutV_len (hL _ (List.getElem_mem _)) h2
  have hDl : (Rsp.dataV k (Rsp.fst k (goodL cs) (k + m)) (Rsp.rowsAt (cutL cs) (Rsp.fst k (goodL cs) (k + m)))).length = k := Rsp.dataV_len
  have hDL := Rsp.dataV_all (n := k) (P := Rsp.fst k (goodL cs) (k + m)) hR (by rw [Rsp.rowsAt_len]; omega)
  have hp := Rsp.par_all (p := m) hm h1 hDl hDL
  rw [hp.2]
  refine ⟨by rw [List.length_append, hDl, Rsp.timesP_len, hq], fun x hx => ?_⟩
  rcases List.mem_append.1 hx with h | h
  · exact hDL x h
  · exact Rsp.timesP_all _ _ _ _ _ x h
theorem clash_no {q : Nat} {g : List Bool} {l v : List (List UInt8)} (h : ∀ i, i < q → g.getD i false = true → v.getD i [] = l.getD i []) : clash q g l v = false := by
  unfold clash
  rw [List.any_eq_false]
  intro i hi
  have hi := List.mem_range.1 hi
  simp only [Bool.and_eq_true, decide_eq_true_eq, not_and]
  intro hg hne
  exact hne (h i hi hg)
theorem clash_yes {q i : Nat} {g : List Bool} {l v : List (List UInt8)} (hi : i < q) (hg : g.getD i false = true) (h : v.getD i [] ≠ l.getD i []) : clash q g l v = true := by
  unfold clash
  rw [List.any_eq_true]
  exact ⟨i, List.mem_range.2 hi, by rw [hg, decide_eq_true h]; rfl⟩
end
theorem badTo_step (ce : Nat) (s : List UInt8) (x : Nat) : badTo ce s (x + 1) = badTo ce s x ++ (if goodB (chunkB s ce x) = true then [] else [x]) := by
  unfold badTo
  rw [List.range_succ, List.filter_append]
  congr 1
  cases h : goodB (chunkB s ce x) <;> simp [h]
theorem badTo_len (ce : Nat) (s : List UInt8) (x : Nat) : (badTo ce s x).length ≤ x := by
  unfold badTo
  exact Nat.le_trans (List.length_filter_le _ _) (by simp)
theorem outTo_step (k m ch : Nat) (s : List UInt8) (t : Nat) : outTo k m ch s (t + 1) = outTo k m ch s t ++ csV k m (csAt k m ch s t) := by
  unfold outTo
  rw [List.range_succ, List.map_append, List.flatten_append]; simp
/-- chunks of a stripe are chunks of the whole -/
theorem chunk_whole {s : List UInt8} {t q ce L i : Nat} (hL : L = q * ce) (hi : i < q) : chunkB ((s.drop (t * L)).take L) ce i = chunkB s ce (t * q + i) := by
  rw [← part_chunk (a := t * L) (d := L) (j := i) (ch := ce) (by rw [hL]; exact Nat.mul_le_mul_right _ hi)]
  unfold chunkB
  rw [Nat.add_mul, Nat.mul_assoc, ← hL]
theorem gd_succ (g : List Bool) (i : Nat) : (Rsp.gd g (i + 1)).length = (Rsp.gd g i).length + (if g.getD i false = true then 1 else 0) := by
  unfold Rsp.gd
  rw [List.range_succ, List.filter_append, List.length_append]
  congr 1
  cases h : g.getD i false with
  | false => rw [List.filter_cons_of_neg (by rw [h]; decide)]; rfl
  | true => rw [List.filter_cons_of_pos (by exact h)]; rfl
theorem behind_no {n : Nat} {o : List UInt8} (h : ∀ i, n ≤ i → i < o.length → o[i]? = some 0) : behind n o = false := by
  unfold behind
  rw [List.any_eq_false]
  intro x hx
  obtain ⟨i, hi, rfl⟩ := List.getElem_of_mem hx
  rw [List.length_drop] at hi
  have h1 := h (n + i) (by omega) (by omega)
  rw [List.getElem_drop]
  rw [List.getElem?_eq_getElem (by omega)] at h1
  injection h1 with h1
  simp [h1]
theorem behind_yes {n i : Nat} {o : List UInt8} {x : UInt8} (h : o[i]? = some x) (hi : n ≤ i) (hx : x ≠ 0) : behind n o = true := by
  unfold behind
  rw [List.any_eq_true]
  refine ⟨x, ?_, decide_eq_true hx⟩
  refine List.mem_iff_getElem?.2 ⟨i - n, ?_⟩
  rw [List.getElem?_drop, show n + (i - n) = i by omega]; exact h
end Stp
end Go.Proofs.YtjbedcgacnnanaaDoor

namespace Go.Proofs.YtjbedcgacnnanaaDoor
set_option linter.unusedSimpArgs false
set_option linter.unusedVariables false
open Go.RowKit

namespace Stp
/-- lists as long as each other, put together: the one number t is cut out again -/
theorem flat_chunk {L : Nat} : ∀ (l : List (List UInt8)) (t : Nat) (x : List UInt8), (∀ x ∈ l, x.length = L) → l[t]? = some x → (l.flatten.drop (t * L)).take L = x
  | [], t, x, _, h => by simp at h
  | a :: l, 0, x, hL, h => by
    simp at h; subst h
    rw [Nat.zero_mul, List.drop_zero, List.flatten_cons, List.take_append_of_le_length (by rw [hL a (List.mem_cons_self ..)]; exact Nat.le_refl _), List.take_of_length_le (by rw [hL a (List.mem_cons_self ..)]; exact Nat.le_refl _)]
  | a :: l, t + 1, x, hL, h => by
    have ha := hL a (List.mem_cons_self ..)
    rw [List.getElem?_cons_succ] at h
    rw [List.flatten_cons, List.drop_append, List.drop_of_length_le (l := a) (by rw [ha, Nat.succ_mul]; omega), List.nil_append, show (t + 1) * L - a.length = t * L by rw [ha, Nat.succ_mul]; omega]
    exact flat_chunk l t x (fun y hy => hL y (List.mem_cons_of_mem _ hy)) h
theorem parts_flat {ch : Nat} : ∀ (k : Nat) (b : List UInt8), b.length = k * ch → (partsB k ch b).flatten = b
  | 0, b, h => by
    rw [Nat.zero_mul] at h
    rw [List.length_eq_zero_iff.1 h]; rfl
  | k + 1, b, h => by
    rw [parts_step 0 ch k b, List.flatten_append]
    have h2 : partsB k ch b = partsB k ch (b.take (k * ch)) := by
      unfold partsB
      apply List.map_congr_left
      intro x hx
      have hx := List.mem_range.1 hx
      unfold chunkB
      have h3 : (x + 1) * ch ≤ k * ch := Nat.mul_le_mul_right _ hx
      rw [Nat.succ_mul] at h3
      rw [List.drop_take, List.take_take, Nat.min_eq_left (by omega)]
    rw [h2, parts_flat k (b.take (k * ch)) (by rw [List.length_take, h, Nat.succ_mul]; omega)]
    unfold chunkB
    rw [List.flatten_cons, List.flatten_nil, List.append_nil, List.take_of_length_le (l := b.drop (k * ch)) (by rw [List.length_drop, h, Nat.succ_mul]; omega), List.take_append_drop]
theorem goodB_put (v : List UInt8) : goodB (Crcp.put v) = true := decide_eq_true (Crcp.cut_put v).1
theorem parts_ext {q ce : Nat} {b : List UInt8} {l : List (List UInt8)} (hl : l.length = q) (h : ∀ (i : Nat) (x : List UInt8), l[i]? = some x → chunkB b ce i = x) : partsB q ce b = l := by
  apply List.ext_getElem?
  intro i
  by_cases hi : i < q
  · have := h i l[i] (List.getElem?_eq_getElem (by omega))
    rw [partsB_get hi, this, List.getElem?_eq_getElem (by omega)]
  · rw [List.getElem?_eq_none (by rw [partsB_len]; omega), List.getElem?_eq_none (by omega)]
section
variable {k m ch n S d L N T : Nat} {b : List UInt8}
/-- stripe t laid out -/
theorem lay_stripe (sh : Shp k m ch n S d L N T) (hb : b.length = n) {t : Nat} (ht : t < S) : ((layV k m ch b).drop (t * L)).take L = oneB k m ch (((padB (k * ch) b).drop (t * (k * ch))).take (k * ch)) := by
  have hS : num (k * ch) b.length = S := by rw [hb, sh.hS]
  have hP : (padB (k * ch) b).length = S * (k * ch) := by rw [padB_len (data_pos sh.k1 sh.c1), hS]
  unfold layV layB
  rw [hS]
  refine flat_chunk (L := L) _ t _ (fun x hx => ?_) ?_
  · obtain ⟨i, hi, rfl⟩ := List.mem_map.1 hx
    rw [sh.hL]
    exact oneB_len (part_len hP (List.mem_range.1 hi))
  · rw [List.getElem?_map, List.getElem?_range ht]; rfl
/-- its chunks -/
theorem lay_cs (sh : Shp k m ch n S d L N T) (hb : b.length = n) {t : Nat} (ht : t < S) : csAt k m ch (layV k m ch b) t = (Rsp.allV k m ch (partsB k ch (((padB (k * ch) b).drop (t * (k * ch))).take (k * ch)))).map Crcp.put := by
  have hS : num (k * ch) b.length = S := by rw [hb, sh.hS]
  have hP : (padB (k * ch) b).length = S * (k * ch) := by rw [padB_len (data_pos sh.k1 sh.c1), hS]
  have hB := part_len hP ht
  unfold csAt
  rw [← sh.hL, lay_stripe sh hb ht]
  refine parts_ext (by rw [List.length_map, Rsp.allV_len (partsB_len ..)]) (fun i x hx => ?_)
  unfold chunkB oneB
  exact flat_chunk _ i x (put_all (Rsp.allV_all (partsB_all hB))) hx
/-- bytes y whose chunks are those of what was laid out, or known to be spoilt; at most m of each stripe -/
structure Hurt (k m ch S : Nat) (x y : List UInt8) : Prop where
  same : ∀ i, i < S * (k + m) → goodB (chunkB y (ch + 4) i) = true → chunkB y (ch + 4) i = chunkB x (ch + 4) i
  few : ∀ t, t < S → k ≤ (Rsp.gd (goodL (csAt k m ch y t)) (k + m)).length
theorem hurt_stripe (sh : Shp k m ch n S d L N T) (hb : b.length = n) {y : List UInt8} (hy : y.length = T) (h : Hurt k m ch S (layV k m ch b) y) {t : Nat} (ht : t < S) :
    csE k m (csAt k m ch y t) = 0 ∧ csV k m (csAt k m ch y t) = ((padB (k * ch) b).drop (t * (k * ch))).take (k * ch) := by
  have hS : num (k * ch) b.length = S := by rw [hb, sh.hS]
  have hP : (padB (k * ch) b).length = S * (k * ch) := by rw [padB_len (data_pos sh.k1 sh.c1), hS]
  have hB := part_len hP ht
  have hcs := lay_cs sh hb ht
  generalize ((padB (k * ch) b).drop (t * (k * ch))).take (k * ch) = B at *
  have hd1 : (partsB k ch B).length = k := partsB_len ..
  have hdL : ∀ x ∈ partsB k ch B, x.length = ch := partsB_all hB
  have hal : (Rsp.allV k m ch (partsB k ch B)).length = k + m := Rsp.allV_len hd1
  have hyl : (csAt k m ch y t).length = k + m := partsB_len ..
  have hSp : Rsp.Spoilt (k + m) (k + m - (Rsp.gd (goodL (csAt k m ch y t)) (k + m)).length) (Rsp.allV k m ch (partsB k ch B)) (goodL (csAt k m ch y t)) (cutL (csAt k m ch y t)) := by
    refine ⟨by rw [goodL_len, hyl], by rw [cutL_len, hyl], fun i hi => ?_, ?_⟩
    · have hik : i < k + m := by
        rcases Nat.lt_or_ge i (k + m) with h1 | h1
        · exact h1
        · rw [List.getD_eq_getElem?_getD, List.getElem?_eq_none (by rw [goodL_len, hyl]; omega)] at hi; cases hi
      have hc : (csAt k m ch y t)[i]? = some (chunkB y (ch + 4) (t * (k + m) + i)) := by
        unfold csAt
        rw [partsB_get hik, chunk_whole (q := k + m) rfl hik]
      have hc2 : (csAt k m ch (layV k m ch b) t)[i]? = some (chunkB (layV k m ch b) (ch + 4) (t * (k + m) + i)) := by
        unfold csAt
        rw [partsB_get hik, chunk_whole (q := k + m) rfl hik]
      rw [List.getD_eq_getElem?_getD, goodL_get hc] at hi
      have hlt : t * (k + m) + i < S * (k + m) := by
        have := Nat.mul_le_mul_right (k + m) (show t + 1 ≤ S from ht)
        rw [Nat.succ_mul] at this; omega
      rw [List.getD_eq_getElem?_getD, List.getD_eq_getElem?_getD, cutL_get hc, h.same _ hlt hi]
      rw [hcs, List.getElem?_map, List.getElem?_eq_getElem (by omega)] at hc2
      injection hc2 with hc2
      rw [← hc2, List.getElem?_eq_getElem (by omega)]
      exact (Crcp.cut_put _).2
    · have := h.few t ht
      have h2 : (Rsp.gd (goodL (csAt k m ch y t)) (k + m)).length ≤ k + m := Rsp.gd_len _ _
      omega
  have hm := hSp.mend rfl sh.k1 sh.km (by have := h.few t ht; omega) hd1 hdL
  have hcl : clash (k + m) (goodL (csAt k m ch y t)) (cutL (csAt k m ch y t)) (Rsp.allV k m ch (partsB k ch B)) = false := clash_no fun i _ hi => (hSp.same i hi).symm
  refine ⟨?_, ?_⟩
  · unfold csE
    rw [if_pos hm.1, hm.2, hcl]; rfl
  · unfold csV
    rw [hm.2]
    unfold Rsp.allV
    rw [List.take_append_of_le_length (by rw [hd1]; exact Nat.le_refl _), List.take_of_length_le (by rw [hd1]; exact Nat.le_refl _), parts_flat k B hB]
theorem flat_parts {P : List UInt8} {d : Nat} : ∀ {S t : Nat}, P.length = S * d → t ≤ S → ((List.range t).map fun i => (P.drop (i * d)).take d).flatten = P.take (t * d)
  | S, 0, _, _ => by simp
  | S, t + 1, h, ht => by
    rw [List.range_succ, List.map_append, List.flatten_append, flat_parts h (by omega)]
    simp only [List.map_cons, List.map_nil, List.flatten_cons, List.flatten_nil, List.append_nil]
    rw [Nat.succ_mul, List.take_add]
theorem hurt_read (sh : Shp k m ch n S d L N T) (hb : b.length = n) {y : List UInt8} (hy : y.length = T) (h : Hurt k m ch S (layV k m ch b) y) :
    rdE k m ch n S y = 0 ∧ rdV k m ch n S y = b ∧ rdB k m ch n S y = badTo (ch + 4) y (S * (k + m)) := by
  have hS : num (k * ch) b.length = S := by rw [hb, sh.hS]
  have hP : (padB (k * ch) b).length = S * (k * ch) := by rw [padB_len (data_pos sh.k1 sh.c1), hS]
  have hf : firstE (fun t => csE k m (csAt k m ch y t)) S = 0 := firstE_all fun t ht => (hurt_stripe sh hb hy h ht).1
  have ho : outTo k m ch y S = padB (k * ch) b := by
    unfold outTo
    rw [List.map_congr_left (g := fun i => ((padB (k * ch) b).drop (i * (k * ch))).take (k * ch)) (fun i hi => (hurt_stripe sh hb hy h (List.mem_range.1 hi)).2), flat_parts hP (Nat.le_refl _), List.take_of_length_le (by rw [hP]; exact Nat.le_refl _)]
  have hbe : behind n (padB (k * ch) b) = false := by
    refine behind_no fun i h1 h2 => ?_
    rw [padB_at h2]
    unfold byteAt
    rw [List.getD_eq_getElem?_getD, List.getElem?_eq_none (by omega)]; rfl
  have he : rdE k m ch n S y = 0 := by unfold rdE; rw [if_pos hf, ho, hbe]; rfl
  refine ⟨he, ?_, ?_⟩
  · unfold rdV
    rw [if_pos he, ho]
    unfold padB
    rw [List.take_append_of_le_length (by omega), List.take_of_length_le (by omega)]
  · unfold rdB; rw [if_pos he]
/-- nothing hurt -/
theorem hurt_none (sh : Shp k m ch n S d L N T) (hb : b.length = n) : Hurt k m ch S (layV k m ch b) (layV k m ch b) ∧ badTo (ch + 4) (layV k m ch b) (S * (k + m)) = [] := by
  have hg : ∀ i, i < S * (k + m) → goodB (chunkB (layV k m ch b) (ch + 4) i) = true := fun i hi => by
    have hq : 0 < k + m := by have := sh.k1; omega
    have ht : i / (k + m) < S := Nat.div_lt_of_lt_mul (by rw [Nat.mul_comm]; exact hi)
    have hr : i % (k + m) < k + m := Nat.mod_lt _ hq
    have hcs := lay_cs sh hb ht
    have hi2 : i / (k + m) * (k + m) + i % (k + m) = i := by rw [Nat.mul_comm]; exact Nat.div_add_mod _ _
    have hc : (csAt k m ch (layV k m ch b) (i / (k + m)))[i % (k + m)]? = some (chunkB (layV k m ch b) (ch + 4) i) := by
      unfold csAt
      rw [partsB_get hr, chunk_whole (q := k + m) rfl hr, hi2]
    rw [hcs, List.getElem?_map, List.getElem?_eq_getElem (by rw [Rsp.allV_len (partsB_len ..)]; exact hr)] at hc
    injection hc with hc
    rw [← hc]
    exact goodB_put _
  refine ⟨⟨fun _ _ _ => rfl, fun t ht => ?_⟩, ?_⟩
  · have hcs := lay_cs sh hb ht
    have hl : ∀ i, i ≤ k + m → (Rsp.gd (goodL (csAt k m ch (layV k m ch b) t)) i).length = i := by
      intro i
      induction i with
      | zero => intro _; rfl
      | succ i ih =>
        intro hi
        rw [gd_succ, ih (by omega)]
        have hc : (csAt k m ch (layV k m ch b) t)[i]? = some (chunkB (layV k m ch b) (ch + 4) (t * (k + m) + i)) := by
          unfold csAt
          rw [partsB_get (by omega), chunk_whole (q := k + m) rfl (by omega)]
        have hlt : t * (k + m) + i < S * (k + m) := by
          have := Nat.mul_le_mul_right (k + m) (show t + 1 ≤ S from ht)
          rw [Nat.succ_mul] at this; omega
        rw [List.getD_eq_getElem?_getD, goodL_get hc]
        simp [hg _ hlt]
    rw [hl _ (Nat.le_refl _)]; omega
  · unfold badTo
    rw [List.filter_eq_nil_iff]
    intro i hi
    simp [hg i (List.mem_range.1 hi)]
/-- too many chunks of a stripe aren't good -/
theorem over_read {y : List UInt8} (sh : Shp k m ch n S d L N T) (hy : y.length = T) {t : Nat} (ht : t < S) (ho : (Rsp.gd (goodL (csAt k m ch y t)) (k + m)).length < k) : (rdE k m ch n S y = 12 ∨ rdE k m ch n S y = 2) ∧ rdV k m ch n S y = [] ∧ rdB k m ch n S y = [] := by
  have hL : ∀ i, i < S → ∀ c ∈ csAt k m ch y i, c.length = ch + 4 := fun i hi => by
    unfold csAt
    refine partsB_all ?_
    have h1 := Nat.mul_le_mul_right L (show i + 1 ≤ S from hi)
    have h2 := sh.hT
    rw [Nat.succ_mul] at h1
    rw [← sh.hL, List.length_take, List.length_drop, hy]; omega
  have hval : ∀ i, i < S → csE k m (csAt k m ch y i) = 0 ∨ csE k m (csAt k m ch y i) = 2 ∨ csE k m (csAt k m ch y i) = 12 := fun i hi => by
    have he := cs_mendE (cs := csAt k m ch y i) sh.k1 rfl sh.km (partsB_len ..) (hL i hi)
    by_cases hf : (Rsp.gd (goodL (csAt k m ch y i)) (k + m)).length < k
    · refine .inr (.inr ?_)
      unfold csE
      rw [he, if_pos hf]; rfl
    · have h0 : Rsp.mendE k m (cutL (csAt k m ch y i)) (goodL (csAt k m ch y i)) = 0 := by rw [he, if_neg hf]
      unfold csE
      rw [if_pos h0]
      by_cases hc : clash (k + m) (goodL (csAt k m ch y i)) (cutL (csAt k m ch y i)) (Rsp.mendV k m (cutL (csAt k m ch y i)) (goodL (csAt k m ch y i))) = true
      · rw [if_pos hc]; exact .inr (.inl rfl)
      · rw [if_neg hc]; exact .inl rfl
  have h12 : csE k m (csAt k m ch y t) = 12 := by
    have he := cs_mendE (cs := csAt k m ch y t) sh.k1 rfl sh.km (partsB_len ..) (hL t ht)
    unfold csE
    rw [he, if_pos ho]; rfl
  have hne : firstE (fun t => csE k m (csAt k m ch y t)) S ≠ 0 := fun h => by
    have h2 : csE k m (csAt k m ch y t) = 0 := firstE_zero h t ht
    rw [h12] at h2; exact absurd h2 (by decide)
  obtain ⟨i, hi, hfi, _⟩ := firstE_mem hne
  have he : rdE k m ch n S y = 12 ∨ rdE k m ch n S y = 2 := by
    unfold rdE
    rw [if_neg hne]
    have hv : csE k m (csAt k m ch y i) = 0 ∨ csE k m (csAt k m ch y i) = 2 ∨ csE k m (csAt k m ch y i) = 12 := hval i hi
    rw [hfi] at hne ⊢
    rcases hv with h | h | h
    · exact absurd h hne
    · exact .inr h
    · exact .inl h
  have h0 : rdE k m ch n S y ≠ 0 := by rcases he with h | h <;> rw [h] <;> decide
  exact ⟨he, by unfold rdV; rw [if_neg h0], by unfold rdB; rw [if_neg h0]⟩
end
end Stp
end Go.Proofs.YtjbedcgacnnanaaDoor
