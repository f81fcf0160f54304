/-
  firkinref01.Same walked: two lists of bytes are the same just if they are equal.
-/
import Derived.Test.YtjbedcgacnnanaaDoorChecked
import Derived.Test.YtjbedcgacnnanaaDoorBa
import Derived.Lib.Hide
namespace Go.Proofs.YtjbedcgacnnanaaDoor
open Go.RowKit

theorem same_any (A A' : Option Addr) (n n' c c' B B' : Nat) (xs ys : List UInt8) (w : World) (h1 : Reads w B 1 A n (xs.map B8)) (h2 : Reads w B' 1 A' n' (ys.map B8)) :
    Calls Tryd.prog 14 #[.slice A n c, .slice A' n' c'] w fun e w' => e = .returned (.bool (decide (xs = ys))) ∧ w = w' := by
  have e1 := run_str (P := Tryd.prog) (w := w) (c := c) 27 9 5 Tryd.underlying27 Tryd.underlying5 Tryd.underlying9 h1
  have e2 := run_str (P := Tryd.prog) (w := w) (c := c') 27 9 5 Tryd.underlying27 Tryd.underlying5 Tryd.underlying9 h2
  go_enter Tryd.func14, Tryd.ntmps14
  go_wp2_with fail
  go_ret
  exact ⟨ret_bool (by rw [Bool.eq_iff_iff, beq_iff_eq, decide_eq_true_iff]), rfl⟩
end Go.Proofs.YtjbedcgacnnanaaDoor
