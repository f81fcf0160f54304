/-
  What the condition on the listed table gives a walk, and that the program's own start meets it.
-/
import Derived.Test.YtjbedcgacnnanaaDoorRows
import Derived.Test.YtjbedcgacnnanaaDoorTcw
import Derived.Lib.LaidTab
import Derived.ProofKit
import Derived.OpenShut
import Derived.LaidMore
import Derived.Stop.Joined
namespace Go.Proofs.YtjbedcgacnnanaaDoor
open Go.RowKit

theorem door_met (os : Os) (args : Array Value) : laidMetH Tryd.prog Rows.stripeSizesRow.laid ((World.doorLaid Tryd.prog 400 os).forCall (fun _ _ => 0) ⟨#[], args, []⟩).memory :=
  laidMetH_of_parts3 (fuel := 8) (laidMet_of_run' 8 (by kernel_rfl) (by kernel_rfl)) (by kernel_rfl) (by kernel_rfl)

def tabN : List Int := [0, 498536548, 997073096, 651767980, 1994146192, 1802195444, 1303535960, 1342533948, 3988292384, 4027552580, 3604390888, 3412177804, 2607071920, 2262029012, 2685067896, 3183342108]
theorem tabN_at : ∀ i, i < 16 → tabN[i]? = some ((Crcp.bits 4 i : Nat) : Int) := by
  intro i hi
  have h : ∀ i : Fin 16, tabN[i.val]? = some ((Crcp.bits 4 i.val : Nat) : Int) := by decide +kernel
  exact h ⟨i, hi⟩

theorem tab_of_laid {W : World} (h : laidMetH Tryd.prog Rows.stripeSizesRow.laid W) : Tab W := by
  rw [MakeChecks.laidMetH_plain _ _ _ (by kernel_rfl)] at h
  obtain ⟨ps, ⟨g0, t0, cs0, f0, p0, q0, hg0, ht0, hv0, hd0, _, _⟩, _⟩ := h
  obtain rfl : 0 = g0 := Option.some.inj (Eq.trans (by kernel_rfl) hg0)
  obtain rfl : 109 = t0 := Option.some.inj (Eq.trans (by kernel_rfl) ht0)
  have hcs := Lib.cells_of_tab (zs := tabN) Tryd.underlying109 Tryd.underlying69 (by kernel_rfl) (by kernel_rfl) hd0
  intro i hi
  have hc := World.var?_cell hg0 hv0 i
  rw [hc]
  have e : cs0[i]? = cs0.toList[i]? := by simp
  rw [e, hcs, List.getElem?_map, tabN_at i hi]
  rfl
end Go.Proofs.YtjbedcgacnnanaaDoor
