/-
  The law StripeLays, walked.
-/
import Derived.Test.YtjbedcgacnnanaaDoorStf
import Derived.Test.YtjbedcgacnnanaaDoorSti
namespace Go.Proofs.YtjbedcgacnnanaaDoor
set_option linter.unusedSimpArgs false
set_option linter.unusedVariables false
open Go.RowKit

/-- no error: a shape within bounds -/
theorem Stp.sizeE_zero {k m ch : Int} {n : Nat} (h : Stp.sizeE k m ch n = 0) : ∃ a b g : Nat, k = (a : Int) ∧ m = (b : Int) ∧ ch = (g : Int) ∧ Stp.sizeV k m ch n = Stp.size a b g n ∧ Shp a b g n (Stp.num (a * g) n) (a * g) ((a + b) * (g + 4)) (Stp.num (a * g) n * (a * g)) (Stp.size a b g n) := by
  cases hok : Stp.ok k m ch n with
  | false => rw [(Stp.sizeE_no hok).1] at h; exact absurd h (by decide)
  | true =>
    obtain ⟨a, b, g, d, rfl, rfl, rfl, hd, h1, h2, h3, h4, h5⟩ := Stp.ok_nat hok
    obtain rfl : n = d := by omega
    by_cases hs : Stp.size a b g n ≤ 16777216
    · exact ⟨a, b, g, rfl, rfl, rfl, (Stp.sizeE_in hok hs).2, ⟨h1, h2, h3, h4, h5, rfl, rfl, rfl, rfl, rfl, hs⟩⟩
    · rw [(Stp.sizeE_big hok (by omega)).1] at h; exact absurd h (by decide)
theorem Stp.sizeV_zero {k m ch n : Int} (h : Stp.sizeE k m ch n ≠ 0) : Stp.sizeV k m ch n = 0 := by unfold Stp.sizeV; rw [if_neg h]
set_option maxRecDepth 100000 in
set_option maxHeartbeats 4000000 in
theorem stripeLays_walk (k m ch : Int) (A : Option Addr) (n c : Nat) (bs : List UInt8) (w : World) (_hk : (Lit.int .i64 k).wf = true) (_hm : (Lit.int .i64 m).wf = true) (_hc : (Lit.int .i64 ch).wf = true) (hnc : n ≤ c) (hcm : c ≤ maxLen) (hr : Reads w w.heap.size 1 A n (bs.map B8)) (ht : Tab w) :
    Calls Tryd.prog 4 #[.int .i64 k, .int .i64 m, .int .i64 ch, .slice A n c] w fun e w' => e = .returned (.bool true) ∧ Below w.heap.size w w' := by
  have KA := Lib.hid (stAlive_any w ht)
  have KR := Lib.hid (fun W => refSize_any k m ch n W)
  clear _hk _hm _hc
  by_cases he : Stp.sizeE k m ch n = 0
  · obtain ⟨a, b, g, rfl, rfl, rfl, hv, sh⟩ := Stp.sizeE_zero he
    rw [he, hv] at KR
    have KL := Lib.hid (fun W (hB : Below w.heap.size w W) => lay_in a b g n _ _ _ _ _ A c bs W sh (ht.below hB ht.pos) ((hr.below hB).more hB.size) hnc hcm)
    have KQ := Lib.hid (fun W (hB : Below w.heap.size w W) => refLay_in a b g n _ _ _ _ _ A c bs W sh (Nat.lt_of_lt_of_le ht.pos hB.size) ((hr.below hB).more hB.size) hnc hcm)
    have t2 := sh.t2
    unfold SlErrN at KL KQ
    generalize Stp.size a b g n = T at *
    generalize Stp.layV a b g bs = V at *
    clear he hv sh hr ht
    by_cases hT : 3000 < T
    · have hT' : (3000 : Int) < (T : Int) := by omega
      go_enter Tryd.func4, Tryd.ntmps4
      go_wp2_with fail
      refine KA.out.mono ?_; rintro e w1 ⟨rfl, hB1⟩
      replace hB1 := Lib.hid hB1
      go_wp2_with fail
      refine (KR.out _).mono ?_; rintro e w2 ⟨rfl, rfl⟩
      go_wp2_with fail
      go_ret
      exact ⟨rfl, hB1.out⟩
    · have hT' : ¬ (3000 : Int) < (T : Int) := by omega
      go_enter Tryd.func4, Tryd.ntmps4
      go_wp2_with fail
      refine KA.out.mono ?_; rintro e w1 ⟨rfl, hB1⟩
      have KL1 := Lib.hid (KL.out w1 hB1)
      replace hB1 := Lib.hid hB1
      go_wp2_with fail
      refine (KR.out _).mono ?_; rintro e w2 ⟨rfl, rfl⟩
      go_wp2_with fail
      refine KL1.out.mono ?_; rintro e w3 ⟨A3, c3, rfl, hf3⟩
      have hB3 := below_then hB1.out hf3.2
      have KQ3 := Lib.hid (KQ.out w3 hB3)
      replace hB3 := Lib.hid hB3
      replace hf3 := Lib.hid hf3
      clear KL KL1 KQ
      go_wp2_with fail
      refine KQ3.out.mono ?_; rintro e w4 ⟨A4, c4, rfl, hf4⟩
      have KS := Lib.hid (same_any A3 A4 T T c3 c4 _ _ V V w4 (Reads.of_own (own_belowL hf3.out.1 hf4.2)) hf4.reads)
      rw [decide_eq_true rfl] at KS
      have hB4 := Lib.hid (below_then hB3.out hf4.2)
      have e1 : ((T : Int) == (T : Int)) = true := by simp
      clear hf3 hf4 KQ3
      go_wp2_with fail
      refine KS.out.mono ?_; rintro e w5 ⟨rfl, rfl⟩
      go_wp2_with fail
      go_ret
      exact ⟨rfl, hB4.out⟩
  · have hv := Stp.sizeV_zero he
    rw [hv] at KR
    obtain ⟨er, her⟩ : ∃ er, Stp.sizeE k m ch n = er := ⟨_, rfl⟩
    rw [her] at he KR
    have KL := Lib.hid (fun W => lay_no k m ch er A n c W her he)
    have e1 : (er == (0 : Int)) = false := by simp [he]
    have e2 : (er != (0 : Int)) = true := by simp [he]
    have e3 : (er == er) = true := by simp
    clear hv her hr ht
    go_enter Tryd.func4, Tryd.ntmps4
    go_wp2_with fail
    refine KA.out.mono ?_; rintro e w1 ⟨rfl, hB1⟩
    replace hB1 := Lib.hid hB1
    go_wp2_with fail
    refine (KR.out _).mono ?_; rintro e w2 ⟨rfl, rfl⟩
    go_wp2_with fail
    refine (KL.out _).mono ?_; rintro e w3 ⟨rfl, hB3⟩
    have hB3 := Lib.hid (below_then hB1.out hB3)
    go_wp2_with fail
    go_ret
    exact ⟨rfl, hB3.out⟩
end Go.Proofs.YtjbedcgacnnanaaDoor
