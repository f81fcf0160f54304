/-
  The law StripeSizes, walked.
-/
import Derived.Test.YtjbedcgacnnanaaDoorStf
namespace Go.Proofs.YtjbedcgacnnanaaDoor
set_option linter.unusedSimpArgs false
set_option linter.unusedVariables false
open Go.RowKit

set_option maxRecDepth 100000 in
set_option maxHeartbeats 4000000 in
theorem stripeSizes_walk (k m ch n : Int) (w : World) (_hk : (Lit.int .i64 k).wf = true) (_hm : (Lit.int .i64 m).wf = true) (_hc : (Lit.int .i64 ch).wf = true) (_hn : (Lit.int .i64 n).wf = true) (ht : Tab w) :
    Calls Tryd.prog 3 #[.int .i64 k, .int .i64 m, .int .i64 ch, .int .i64 n] w fun e w' => e = .returned (.bool true) ∧ Below w.heap.size w w' := by
  have KA := Lib.hid (stAlive_any w ht)
  have KS := Lib.hid (fun W => size_any k m ch n W)
  have KR := Lib.hid (fun W => refSize_any k m ch n W)
  unfold NumErr at KS
  generalize Stp.sizeV k m ch n = v at *
  generalize Stp.sizeE k m ch n = er at *
  clear ht _hk _hm _hc _hn
  go_enter Tryd.func3, Tryd.ntmps3
  go_wp2_with fail
  refine KA.out.mono ?_; rintro e w1 ⟨rfl, hB1⟩
  replace hB1 := Lib.hid hB1
  go_wp2_with fail
  refine (KS.out _).mono ?_; rintro e w2 ⟨rfl, hB2⟩
  have hB2 := Lib.hid (below_then hB1.out hB2)
  go_wp2_with fail
  refine (KR.out _).mono ?_; rintro e w3 ⟨rfl, rfl⟩
  have e1 : ((v : Int) == (v : Int)) = true := by simp
  have e2 : (er == er) = true := by simp
  go_wp2_with fail
  go_ret
  exact ⟨rfl, hB2.out⟩
end Go.Proofs.YtjbedcgacnnanaaDoor
