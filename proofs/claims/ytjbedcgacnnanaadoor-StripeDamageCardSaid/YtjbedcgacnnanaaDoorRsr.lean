/-
  The laws of mending: alive; RsParity, RsMends, RsRight, walked.
-/
import Derived.Test.YtjbedcgacnnanaaDoorRsm
import Derived.Test.YtjbedcgacnnanaaDoorRsn
import Derived.Test.YtjbedcgacnnanaaDoorRsq
import Derived.Lib.SlBytesConst
namespace Go.Proofs.YtjbedcgacnnanaaDoor
set_option linter.unusedSimpArgs false
set_option linter.unusedVariables false
open Go.RowKit

theorem Rsp.alive_val : Rsp.mendE 1 1 [[97], []] [true, false] = 0 ∧ Rsp.mendV 1 1 [[97], []] [true, false] = [[97], [97]] := by decide +kernel
theorem rowL {W : World} {b0 base n c k : Nat} {A : Option Addr} {xss : List (List UInt8)} {xs : List UInt8} (h : Lists W b0 base A n c xss) (hk : xss[k]? = some xs) : ∃ g Ai ci, A = some ⟨g, 0, none⟩ ∧ W.cell? ⟨g, k, none⟩ = some (.slice Ai xs.length ci) ∧ Reads W W.heap.size 1 Ai xs.length (xs.map B8) := by
  obtain ⟨⟨vs, h1, h2, h3⟩, hb, h0⟩ := h
  obtain ⟨Ai, ci, e, hr⟩ := h3 k xs hk
  have hkn : k < n := by have := (List.getElem?_eq_some_iff.1 hk).1; omega
  obtain ⟨g, cap, hv, _, _⟩ := h1.form (by omega)
  have hA : A = some ⟨g, 0, none⟩ := by injection hv
  subst hA
  exact ⟨g, Ai, ci, rfl, by rw [h1.cellAt k (by omega)]; exact e, hr.reads h0 hb⟩
end Go.Proofs.YtjbedcgacnnanaaDoor
