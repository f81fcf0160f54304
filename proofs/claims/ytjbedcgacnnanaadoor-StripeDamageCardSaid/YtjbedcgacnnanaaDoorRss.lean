/-
  The laws RsParity, RsMends, RsRight, walked.
-/
import Derived.Test.YtjbedcgacnnanaaDoorRsr
namespace Go.Proofs.YtjbedcgacnnanaaDoor
set_option linter.unusedSimpArgs false
set_option linter.unusedVariables false
open Go.RowKit

theorem small_of_great {l : List (List UInt8)} (h : Rsp.great l = false) : ∀ x ∈ l, x.length ≤ 1000000 := fun x hx => Nat.le_trans ((Rsp.great_parts h).2 x hx) (by omega)
end Go.Proofs.YtjbedcgacnnanaaDoor
