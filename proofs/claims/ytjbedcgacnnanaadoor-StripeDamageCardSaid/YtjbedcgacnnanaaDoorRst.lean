/-
  The law RsMends, walked.
-/
import Derived.Test.YtjbedcgacnnanaaDoorRss
namespace Go.Proofs.YtjbedcgacnnanaaDoor
set_option linter.unusedSimpArgs false
set_option linter.unusedVariables false
open Go.RowKit

namespace Rsp
theorem parV_le (m : Int) (l : List (List UInt8)) : (parV m l).length ≤ 255 := by
  by_cases hok : parOk m l = true
  · rw [parV_yes hok, timesP_len]
    have h1 : may l.length m = true := by unfold parOk at hok; rw [Bool.and_eq_true] at hok; exact hok.1
    unfold may at h1; simp at h1; omega
  · rw [parV_no (by simpa using hok)]; simp
theorem mendV_le (k m : Int) (l : List (List UInt8)) (g : List Bool) : (mendV k m l g).length ≤ 510 := by
  by_cases hm : may k m = true ∧ (l.length : Int) = k + m ∧ (g.length : Int) = k + m
  · by_cases he : mendE k m l g = 0
    · unfold mendV
      rw [if_pos he, List.length_append, dataV_len]
      have := parV_le m (dataV k.toNat (fst k.toNat g g.length) (rowsAt l (fst k.toNat g g.length)))
      have h1 := hm.1
      unfold may at h1; simp at h1; omega
    · unfold mendV; rw [if_neg he]; simp
  · rw [(mend_bad hm).2]; simp
end Rsp
section
variable (k m : Int) (A Ag : Option Addr) (n c ng cg : Nat) (xss : List (List UInt8)) (gs : List Bool) (w : World)
theorem mend_any (hn : n ≤ 100000) (hng : ng ≤ 100000) (hx : Rows8 w w.heap.size A n xss) (hg : Reads w w.heap.size 1 Ag ng (gs.map Value.bool)) (hL : ∀ x ∈ xss, x.length ≤ 1000000) :
    Calls Tryd.prog 47 #[.int .i64 k, .int .i64 m, .slice A n c, .slice Ag ng cg] w (LsErr w (Rsp.mendV k m xss gs).length (Rsp.mendV k m xss gs) (Rsp.mendE k m xss gs)) := by
  by_cases h : Rsp.may k m = true ∧ (n : Int) = k + m ∧ (ng : Int) = k + m
  · obtain ⟨hm, h1, h2⟩ := h
    obtain ⟨n0, p, rfl, rfl, h3, hq⟩ : ∃ n0 p : Nat, k = (n0 : Int) ∧ m = (p : Int) ∧ 1 ≤ n0 ∧ n0 + p ≤ 255 := by unfold Rsp.may at hm; simp at hm; exact ⟨k.toNat, m.toNat, by omega, by omega, by omega, by omega⟩
    obtain rfl : n = n0 + p := by omega
    obtain rfl : ng = n0 + p := by omega
    exact mend_in n0 p _ A Ag c cg xss gs w rfl h3 hq hx hg hL
  · have hl := hx.len
    have hgl := hg.len
    have hb := Rsp.mend_bad (k := k) (m := m) (l := xss) (g := gs) (by rw [hl, hgl]; exact h)
    rw [hb.1, hb.2]
    exact mend_bad k m A Ag n c ng cg xss gs w hl hgl hn hng h
theorem refMend_any (hn : n ≤ 100000) (hng : ng ≤ 100000) (hx : Rows8 w w.heap.size A n xss) (hg : Reads w w.heap.size 1 Ag ng (gs.map Value.bool)) (hL : ∀ x ∈ xss, x.length ≤ 1000000) :
    Calls Tryd.prog 33 #[.int .i64 k, .int .i64 m, .slice A n c, .slice Ag ng cg] w (LsErr w (Rsp.mendV k m xss gs).length (Rsp.mendV k m xss gs) (Rsp.mendE k m xss gs)) := by
  by_cases h : Rsp.may k m = true ∧ (n : Int) = k + m ∧ (ng : Int) = k + m
  · obtain ⟨hm, h1, h2⟩ := h
    obtain ⟨n0, p, rfl, rfl, h3, hq⟩ : ∃ n0 p : Nat, k = (n0 : Int) ∧ m = (p : Int) ∧ 1 ≤ n0 ∧ n0 + p ≤ 255 := by unfold Rsp.may at hm; simp at hm; exact ⟨k.toNat, m.toNat, by omega, by omega, by omega, by omega⟩
    obtain rfl : n = n0 + p := by omega
    obtain rfl : ng = n0 + p := by omega
    exact refMend_in n0 p _ A Ag c cg xss gs w rfl h3 hq hx hg hL
  · have hl := hx.len
    have hgl := hg.len
    have hb := Rsp.mend_bad (k := k) (m := m) (l := xss) (g := gs) (by rw [hl, hgl]; exact h)
    rw [hb.1, hb.2]
    exact refMend_bad k m A Ag n c ng cg xss gs w hl hgl hn hng h
end

end Go.Proofs.YtjbedcgacnnanaaDoor
