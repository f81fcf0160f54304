/-
  What any parts are mended to, plainly: all parts of data; data back from any of them.
-/
import Derived.Test.YtjbedcgacnnanaaDoorRsh
namespace Go.Proofs.YtjbedcgacnnanaaDoor
set_option linter.unusedSimpArgs false
set_option linter.unusedVariables false
open Go.RowKit

namespace Rsp
/-- the rows P of the matrix that makes all parts -/
def subC (n : Nat) (P : List Nat) (i j : Nat) : UInt8 := Lin.wholeC n (P.getD i 0) j
/-- what the parts P make of the data back -/
def backF (n : Nat) (P : List Nat) : Nat → Nat → UInt8 := (Lin.inverse n (cellAt (cellsTo n (fun i j => Lin.wholeC n (P.getD i 0) j) (n * n)) n)).getD (fun _ _ => 0)
section
variable {n p L : Nat} {P : List Nat} {d l : List (List UInt8)}
theorem back_some (hn : n + p ≤ 256) (hl : P.length = n) (hnd : P.Nodup) (hP : ∀ x ∈ P, x < n + p) : Lin.inverse n (cellAt (cellsTo n (fun i j => Lin.wholeC n (P.getD i 0) j) (n * n)) n) = some (backF n P) := by
  obtain ⟨X, hX⟩ := sub_inverse n p P hn hl hnd hP
  unfold backF; rw [hX]; rfl
theorem sub_at {i j : Nat} (hi : i < n) (hj : j < n) : cellAt (cellsTo n (fun i j => Lin.wholeC n (P.getD i 0) j) (n * n)) n i j = subC n P i j := cells_eq hi hj
theorem back_left (hn : n + p ≤ 256) (hl : P.length = n) (hnd : P.Nodup) (hP : ∀ x ∈ P, x < n + p) {i j : Nat} (hi : i < n) (hj : j < n) : Lin.mm n (backF n P) (subC n P) i j = Lin.one i j := by
  have h := (Lin.inverse_some (back_some hn hl hnd hP)).1 i j hi hj
  rw [← h]
  exact Lin.mm_congr (fun _ _ => rfl) (fun t ht => (sub_at ht hj).symm)
theorem back_right (hn : n + p ≤ 256) (hl : P.length = n) (hnd : P.Nodup) (hP : ∀ x ∈ P, x < n + p) {i j : Nat} (hi : i < n) (hj : j < n) : Lin.mm n (subC n P) (backF n P) i j = Lin.one i j := by
  have h := (Lin.inverse_some (back_some hn hl hnd hP)).2 i j hi hj
  rw [← h]
  exact Lin.mm_congr (fun t ht => (sub_at hi ht).symm) (fun _ _ => rfl)
/-- a matrix times its inverse times lists: the lists -/
theorem times_times {A B : Nat → Nat → UInt8} (h : ∀ i j, i < n → j < n → Lin.mm n A B i j = Lin.one i j) (hl : l.length = n) (hL : ∀ x ∈ l, x.length = L) : timesP n n L A (timesP n n L B l) = l := by
  refine lists_ext (L := L) (by rw [timesP_len, hl]) (timesP_all n n L A _) hL fun i m hi hm => ?_
  rw [timesP_len] at hi
  rw [at_times _ _ _ _ _ _ _ hi hm, Lin.mm_congr (fun _ _ => rfl) (fun t ht => at_times n n L B l t m ht hm), ← Lin.mm_assoc, Lin.mm_congr (fun t ht => h i t hi ht) (fun _ _ => rfl), Lin.mm_one_left _ _ hi]
theorem rowP_one {i : Nat} (hi : i < n) {b : List UInt8} (hb : d[i]? = some b) (hL : b.length = L) : rowP n L (Lin.one i) d = b := by
  apply list_ext_getD (by rw [rowP_len, hL])
  intro m hm
  rw [rowP_len] at hm
  rw [rowP_get _ _ _ _ _ hm, Lin.sum_one (i := i) n hi (fun t _ hne => by rw [Lin.one_ne (Ne.symm hne), zero_fm]), Lin.one_self, one_fm]
  unfold at_
  rw [show d.getD i [] = b by rw [List.getD_eq_getElem?_getD, hb]; rfl]
theorem rowP_congr {f g : Nat → UInt8} (h : ∀ j, j < n → f j = g j) : rowP n L f d = rowP n L g d := by
  apply List.map_congr_left
  intro m _
  exact Lin.sum_congr n fun t ht => by rw [h t ht]
/-- all parts of data -/
def allV (n p L : Nat) (d : List (List UInt8)) : List (List UInt8) := d ++ timesP p n L (cauC n) d
theorem allV_len (hd : d.length = n) : (allV n p L d).length = n + p := by unfold allV; rw [List.length_append, hd, timesP_len]
theorem allV_all (hL : ∀ x ∈ d, x.length = L) : ∀ x ∈ allV n p L d, x.length = L := fun x hx => by
  unfold allV at hx
  rcases List.mem_append.1 hx with h | h
  · exact hL x h
  · exact timesP_all _ _ _ _ _ x h
theorem allV_get (hd : d.length = n) (hL : ∀ x ∈ d, x.length = L) {i : Nat} (hi : i < n + p) : (allV n p L d)[i]? = some (rowP n L (Lin.wholeC n i) d) := by
  unfold allV
  by_cases h : i < n
  · have hb : d[i]? = some d[i] := List.getElem?_eq_getElem (by omega)
    rw [List.getElem?_append_left (by omega), hb, rowP_congr (g := Lin.one i) (fun j _ => by unfold Lin.wholeC; rw [if_pos h]), rowP_one h hb (hL _ (List.getElem_mem _))]
  · rw [List.getElem?_append_right (by omega), hd, timesP_get _ _ _ _ _ _ (by omega)]
    congr 1
    apply rowP_congr
    intro j _
    unfold cauC Lin.wholeC
    rw [if_neg h, show n + (i - n) = i by omega]
theorem rowsAt_all (hd : d.length = n) (hL : ∀ x ∈ d, x.length = L) (hP : ∀ x ∈ P, x < n + p) : rowsAt (allV n p L d) P = P.map fun x => rowP n L (Lin.wholeC n x) d := by
  unfold rowsAt
  apply List.map_congr_left
  intro x hx
  rw [List.getD_eq_getElem?_getD, allV_get hd hL (hP x hx)]; rfl
theorem times_sub (hl : P.length = n) : timesP n n L (subC n P) d = P.map fun x => rowP n L (Lin.wholeC n x) d := by
  apply List.ext_getElem?
  intro i
  by_cases h : i < n
  · rw [timesP_get _ _ _ _ _ _ h, List.getElem?_map, List.getElem?_eq_getElem (by omega)]
    show some _ = some _
    congr 1
    apply rowP_congr
    intro j _
    unfold subC
    rw [List.getD_eq_getElem?_getD, List.getElem?_eq_getElem (by omega)]; rfl
  · rw [List.getElem?_eq_none (by rw [timesP_len]; omega), List.getElem?_eq_none (by simp; omega)]
/-- the data of the parts P -/
def dataV (n : Nat) (P : List Nat) (l : List (List UInt8)) : List (List UInt8) := timesP n n (l.headD []).length (backF n P) l
theorem head_len (hL : ∀ x ∈ l, x.length = L) (h : 0 < l.length) : (l.headD []).length = L := by
  cases l with
  | nil => simp at h
  | cons a t => exact hL a (List.mem_cons_self ..)
theorem dataV_len : (dataV n P l).length = n := timesP_len ..
/-- of the data's own parts the data comes back -/
theorem data_back (hn : n + p ≤ 256) (h1 : 1 ≤ n) (hl : P.length = n) (hnd : P.Nodup) (hP : ∀ x ∈ P, x < n + p) (hd : d.length = n) (hL : ∀ x ∈ d, x.length = L) : dataV n P (rowsAt (allV n p L d) P) = d := by
  have hal : ∀ x ∈ rowsAt (allV n p L d) P, x.length = L := fun x hx => by
    rw [rowsAt_all hd hL hP] at hx
    obtain ⟨y, _, rfl⟩ := List.mem_map.1 hx
    exact rowP_len ..
  unfold dataV
  rw [head_len hal (by rw [rowsAt_len]; omega), rowsAt_all hd hL hP, ← times_sub hl]
  exact times_times (fun i j hi hj => back_left hn hl hnd hP hi hj) hd hL
/-- what comes back has the parts -/
theorem data_has (hn : n + p ≤ 256) (hl : P.length = n) (hnd : P.Nodup) (hP : ∀ x ∈ P, x < n + p) (hll : l.length = n) (hL : ∀ x ∈ l, x.length = L) (h1 : 1 ≤ n) : rowsAt (allV n p L (dataV n P l)) P = l := by
  have e : dataV n P l = timesP n n L (backF n P) l := by unfold dataV; rw [head_len hL (by omega)]
  rw [e, rowsAt_all (timesP_len ..) (timesP_all n n L _ _) hP, ← times_sub hl]
  exact times_times (fun i j hi hj => back_right hn hl hnd hP hi hj) hll hL
theorem dataV_all (hL : ∀ x ∈ l, x.length = L) (h : 0 < l.length) : ∀ x ∈ dataV n P l, x.length = L := by
  unfold dataV; rw [head_len hL h]; exact timesP_all _ _ _ _ _
/-- the data parts themselves -/
theorem data_self (hn : n + p ≤ 256) (h1 : 1 ≤ n) (hll : l.length = n) (hL : ∀ x ∈ l, x.length = L) : dataV n (List.range n) l = l := by
  have h := data_back (P := List.range n) (d := l) (L := L) hn h1 List.length_range List.nodup_range (fun x hx => by have := List.mem_range.1 hx; omega) hll hL
  have e : rowsAt (allV n p L l) (List.range n) = l := by
    apply List.ext_getElem?
    intro i
    unfold rowsAt
    by_cases hi : i < n
    · rw [List.getElem?_map, List.getElem?_range hi]
      show some ((allV n p L l).getD i []) = _
      rw [List.getD_eq_getElem?_getD]
      unfold allV
      rw [List.getElem?_append_left (by omega), List.getElem?_eq_getElem (by omega)]; rfl
    · rw [List.getElem?_eq_none (by simp; omega), List.getElem?_eq_none (by omega)]
  rw [e] at h
  exact h
theorem gd_sorted (g : List Bool) (i : Nat) : (gd g i).Pairwise (· < ·) := List.pairwise_lt_range.filter _
theorem fst_sorted (kk : Nat) (g : List Bool) (i : Nat) : (fst kk g i).Pairwise (· < ·) := (gd_sorted g i).sublist (List.take_sublist _ _)
theorem fst_nodup (kk : Nat) (g : List Bool) (i : Nat) : (fst kk g i).Nodup := (gd_nodup g i).sublist (List.take_sublist _ _)
theorem fst_lt {kk i x : Nat} {g : List Bool} (h : x ∈ fst kk g i) : x < i := gd_lt (List.mem_of_mem_take h)
theorem fst_good {kk i x : Nat} {g : List Bool} (h : x ∈ fst kk g i) : g.getD x false = true := gd_good (List.mem_of_mem_take h)
/-- rising numbers of which the last one is as small as may be -/
theorem rising_range : ∀ (n : Nat) (P : List Nat), P.Pairwise (· < ·) → P.length = n → (∀ x, P[n - 1]? = some x → x = n - 1) → P = List.range n
  | 0, P, _, hl, _ => by rw [List.length_eq_zero_iff.1 hl]; rfl
  | n + 1, P, hs, hl, hx => by
    have hge : ∀ (i x : Nat), P[i]? = some x → i ≤ x := by
      intro i
      induction i with
      | zero => intro x _; omega
      | succ i ih =>
        intro x hx
        have hi := (List.getElem?_eq_some_iff.1 hx).1
        have h1 := ih P[i] (List.getElem?_eq_getElem (by omega))
        have h2 := List.pairwise_iff_getElem.1 hs i (i + 1) (by omega) hi (by omega)
        rw [List.getElem?_eq_getElem hi] at hx
        injection hx with hx
        omega
    have hlast := hx P[n] (by rw [Nat.add_sub_cancel]; exact List.getElem?_eq_getElem (by omega))
    apply List.ext_getElem?
    intro i
    by_cases hi : i < n + 1
    · rw [List.getElem?_eq_getElem (by omega), List.getElem?_range hi]
      congr 1
      have h1 := hge i P[i] (List.getElem?_eq_getElem (by omega))
      -- P[i] + (n - i) ≤ P[n]
      have h2 : ∀ k, ∀ (h : i + k < P.length), P[i] + k ≤ P[i + k] := by
        intro k
        induction k with
        | zero => intro h; simp
        | succ k ih =>
          intro h
          have a := ih (by omega)
          have b := List.pairwise_iff_getElem.1 hs (i + k) (i + (k + 1)) (by omega) h (by omega)
          omega
      have h3 := h2 (n - i) (by omega)
      have e : P[i + (n - i)]'(by omega) = P[n] := by congr 1; omega
      rw [e, hlast] at h3
      omega
    · rw [List.getElem?_eq_none (by omega), List.getElem?_eq_none (by simp; omega)]
end

/-- the error of mending -/
def mendE (k m : Int) (l : List (List UInt8)) (g : List Bool) : Int :=
  if may k m && (decide ((l.length : Int) = k + m) && decide ((g.length : Int) = k + m)) then
    if alike (rowsAt l (gd g g.length)) then if (gd g g.length).length < k.toNat then 12 else 0 else 13
  else 13
/-- what parts are mended to -/
def mendV (k m : Int) (l : List (List UInt8)) (g : List Bool) : List (List UInt8) :=
  if mendE k m l g = 0 then dataV k.toNat (fst k.toNat g g.length) (rowsAt l (fst k.toNat g g.length)) ++ parV m (dataV k.toNat (fst k.toNat g g.length) (rowsAt l (fst k.toNat g g.length))) else []
theorem mend_bad {k m : Int} {l : List (List UInt8)} {g : List Bool} (h : ¬ (may k m = true ∧ (l.length : Int) = k + m ∧ (g.length : Int) = k + m)) : mendE k m l g = 13 ∧ mendV k m l g = [] := by
  have e : mendE k m l g = 13 := by
    unfold mendE
    rw [if_neg (by simp only [Bool.and_eq_true, decide_eq_true_eq]; exact h)]
  exact ⟨e, by unfold mendV; rw [if_neg (by rw [e]; decide)]⟩
section
variable {n p : Nat} {l : List (List UInt8)} {g : List Bool}
theorem mend_odd (hm : may (n : Int) (p : Int) = true) (hl : l.length = n + p) (hg : g.length = n + p) (ha : alike (rowsAt l (gd g (n + p))) = false) : mendE n p l g = 13 ∧ mendV n p l g = [] := by
  have e : mendE n p l g = 13 := by
    unfold mendE
    rw [if_pos (by rw [hm, hl, hg]; simp), hg, if_neg (by rw [ha]; decide)]
  exact ⟨e, by unfold mendV; rw [if_neg (by rw [e]; decide)]⟩
theorem mend_few (hm : may (n : Int) (p : Int) = true) (hl : l.length = n + p) (hg : g.length = n + p) (ha : alike (rowsAt l (gd g (n + p))) = true) (hf : (gd g (n + p)).length < n) : mendE n p l g = 12 ∧ mendV n p l g = [] := by
  have e : mendE n p l g = 12 := by
    unfold mendE
    rw [if_pos (by rw [hm, hl, hg]; simp), hg, if_pos ha, if_pos (by rw [Int.toNat_natCast]; exact hf)]
  exact ⟨e, by unfold mendV; rw [if_neg (by rw [e]; decide)]⟩
theorem mend_yes (hm : may (n : Int) (p : Int) = true) (hl : l.length = n + p) (hg : g.length = n + p) (ha : alike (rowsAt l (gd g (n + p))) = true) (hf : n ≤ (gd g (n + p)).length) :
    mendE n p l g = 0 ∧ mendV n p l g = dataV n (fst n g (n + p)) (rowsAt l (fst n g (n + p))) ++ parV p (dataV n (fst n g (n + p)) (rowsAt l (fst n g (n + p)))) := by
  have e : mendE n p l g = 0 := by
    unfold mendE
    rw [if_pos (by rw [hm, hl, hg]; simp), hg, if_pos ha, if_neg (by rw [Int.toNat_natCast]; omega)]
  exact ⟨e, by unfold mendV; rw [if_pos e, Int.toNat_natCast, hg]⟩
/-- the first good parts are as long as each other -/
theorem fst_alike (ha : alike (rowsAt l (gd g (n + p))) = true) : ∃ L, ∀ x ∈ rowsAt l (fst n g (n + p)), x.length = L := by
  refine ⟨_, fun x hx => alike_all ha x ?_⟩
  unfold rowsAt fst at hx
  unfold rowsAt
  rw [List.map_take] at hx
  exact List.mem_of_mem_take hx
theorem alike_of {L : Nat} {l : List (List UInt8)} (h : ∀ x ∈ l, x.length = L) : alike l = true := by
  unfold alike
  rw [List.all_eq_true]
  intro x hx
  rw [decide_eq_true_iff, h x hx]
  cases l with
  | nil => cases hx
  | cons a t => exact (h a (List.mem_cons_self ..)).symm
/-- data and parity: all parts -/
theorem par_all {L : Nat} {d : List (List UInt8)} (hm : may (n : Int) (p : Int) = true) (h1 : 1 ≤ n) (hd : d.length = n) (hL : ∀ x ∈ d, x.length = L) : parE p d = 0 ∧ parV p d = timesP p n L (cauC n) d := by
  have hok : parOk p d = true := by unfold parOk; rw [hd, hm, alike_of hL]; rfl
  exact ⟨parE_yes hok, by rw [parV_yes hok, Int.toNat_natCast, hd, head_len hL (by omega)]⟩
end
end Rsp
end Go.Proofs.YtjbedcgacnnanaaDoor
