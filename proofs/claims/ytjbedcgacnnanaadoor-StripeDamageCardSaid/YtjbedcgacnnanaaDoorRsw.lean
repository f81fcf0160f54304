/-
  The law RsFew, walked.
-/
import Derived.Test.YtjbedcgacnnanaaDoorRst
namespace Go.Proofs.YtjbedcgacnnanaaDoor
set_option linter.unusedSimpArgs false
set_option linter.unusedVariables false
open Go.RowKit

namespace Rsp
theorem rows_all {l : List (List UInt8)} {P : List Nat} {L : Nat} (hP : ∀ x ∈ P, x < l.length) (hL : ∀ x ∈ l, x.length = L) : ∀ x ∈ rowsAt l P, x.length = L := fun x hx => by
  unfold rowsAt at hx
  obtain ⟨t, ht, rfl⟩ := List.mem_map.1 hx
  rw [List.getD_eq_getElem?_getD, List.getElem?_eq_getElem (hP t ht)]
  exact hL _ (List.getElem_mem _)
section
variable {n p q L : Nat} {l : List (List UInt8)} {g : List Bool}
/-- what is mended: all parts of some data; the first good ones are as they were -/
theorem mend_good (hnp : n + p = q) (h1 : 1 ≤ n) (hq : q ≤ 255) (hl : l.length = q) (hg : g.length = q) (hL : ∀ x, x < q → g.getD x false = true → (l.getD x []).length = L) (hf : n ≤ (gd g q).length) :
    mendE n p l g = 0 ∧ ∃ d : List (List UInt8), d.length = n ∧ (∀ x ∈ d, x.length = L) ∧ mendV n p l g = allV n p L d ∧ (∀ x ∈ fst n g q, (allV n p L d).getD x [] = l.getD x []) ∧ d = dataV n (fst n g q) (rowsAt l (fst n g q)) := by
  subst hnp
  have hm : may (n : Int) (p : Int) = true := by unfold may; simp; omega
  have hall : ∀ P : List Nat, (∀ x ∈ P, x < n + p) → (∀ x ∈ P, g.getD x false = true) → ∀ x ∈ rowsAt l P, x.length = L := fun P h1 h2 x hx => by
    unfold rowsAt at hx
    obtain ⟨t, ht, rfl⟩ := List.mem_map.1 hx
    exact hL t (h1 t ht) (h2 t ht)
  have ha : alike (rowsAt l (gd g (n + p))) = true := alike_of (hall _ (fun x hx => gd_lt hx) (fun x hx => gd_good hx))
  obtain ⟨e1, e2⟩ := mend_yes hm hl hg ha hf
  have hfl : ∀ x ∈ rowsAt l (fst n g (n + p)), x.length = L := hall _ (fun x hx => fst_lt hx) (fun x hx => fst_good hx)
  have hfn : (fst n g (n + p)).length = n := by rw [fst_len]; omega
  have hrl : (rowsAt l (fst n g (n + p))).length = n := by rw [rowsAt_len, hfn]
  have hdl : (dataV n (fst n g (n + p)) (rowsAt l (fst n g (n + p)))).length = n := dataV_len
  have hdL := dataV_all (n := n) (P := fst n g (n + p)) hfl (by omega)
  refine ⟨e1, _, hdl, hdL, ?_, ?_, rfl⟩
  · rw [e2, (par_all hm h1 hdl hdL).2]; rfl
  · have h := data_has (p := p) (P := fst n g (n + p)) (l := rowsAt l (fst n g (n + p))) (L := L) (by omega) hfn (fst_nodup _ _ _) (fun x hx => fst_lt hx) hrl hfl h1
    unfold rowsAt at h
    exact List.map_inj_left.1 h
theorem all_right {d : List (List UInt8)} (h1 : 1 ≤ n) (hq : n + p ≤ 255) (hd : d.length = n) (hL : ∀ x ∈ d, x.length = L) : rightV n p (allV n p L d) = true := by
  have hm : may (n : Int) (p : Int) = true := by unfold may; simp; omega
  rw [right_in hm (allV_len hd) (alike_of (allV_all hL)), decide_eq_true_iff]
  have e1 : (allV n p L d).take n = d := by unfold allV; rw [List.take_append_of_le_length (by omega), List.take_of_length_le (by omega)]
  have e2 : (allV n p L d).drop n = timesP p n L (cauC n) d := by unfold allV; rw [List.drop_append_of_le_length (by omega), List.drop_of_length_le (by omega), List.nil_append]
  rw [e1, e2, (par_all hm h1 hd hL).2]
end
end Rsp
end Go.Proofs.YtjbedcgacnnanaaDoor
