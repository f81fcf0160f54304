/-
  Right, the program's and the document's, walked.
-/
import Derived.Test.YtjbedcgacnnanaaDoorRso
namespace Go.Proofs.YtjbedcgacnnanaaDoor
set_option linter.unusedSimpArgs false
set_option linter.unusedVariables false
open Go.RowKit

namespace Rsp
/-- are these parts of one another? -/
def rightV (k m : Int) (l : List (List UInt8)) : Bool := may k m && (decide ((l.length : Int) = k + m) && (alike l && decide (parV m (l.take k.toNat) = l.drop k.toNat)))
theorem right_bad {k m : Int} {l : List (List UInt8)} (h : ¬ (may k m = true ∧ (l.length : Int) = k + m)) : rightV k m l = false := by
  unfold rightV
  by_cases h1 : may k m = true
  · have h2 : ¬ (l.length : Int) = k + m := fun h2 => h ⟨h1, h2⟩
    rw [decide_eq_false h2, Bool.false_and, Bool.and_false]
  · rw [Bool.eq_false_iff.2 h1, Bool.false_and]
theorem right_odd {k m : Int} {l : List (List UInt8)} (h : alike l = false) : rightV k m l = false := by
  unfold rightV
  rw [h, Bool.false_and, Bool.and_false, Bool.and_false]
theorem right_in {n p : Nat} {l : List (List UInt8)} (hm : may (n : Int) (p : Int) = true) (hl : l.length = n + p) (ha : alike l = true) : rightV n p l = decide (parV p (l.take n) = l.drop n) := by
  unfold rightV
  rw [hm, ha, decide_eq_true (by omega), Bool.true_and, Bool.true_and, Bool.true_and, Int.toNat_natCast]
end Rsp


end Go.Proofs.YtjbedcgacnnanaaDoor
