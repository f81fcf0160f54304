/-
  The law SetsHas, walked.
-/
import Derived.Test.YtpgnaahfkcgflaaSethp
namespace Go.Proofs.Ytpgnaahfkcgflaa
set_option linter.unusedSimpArgs false
set_option linter.unusedVariables false
open Go.RowKit

set_option maxRecDepth 100000 in
set_option maxHeartbeats 2000000 in
theorem setsHas_main (A : Option Addr) (n c : Nat) (a : List Int) (A' : Option Addr) (n' c' : Nat) (b : List Int) (x : Int) (w : World) (ha : Ls w A n c a) (hb : Ls w A' n' c' b) (hn : n ≤ 300) (hn' : n' ≤ 300) (hma : Setp.may a = true) (hmb : Setp.may b = true) :
    Calls Try.prog 8 #[.slice A n c, .slice A' n' c', .int .i64 x] w fun e w' => e = .returned (.bool true) ∧ Below w.heap.size w w' := by
  have h1 : (n : Int) ≤ 300 := by omega
  have h2 : (n' : Int) ≤ 300 := by omega
  have LA := Lib.hid (fun W (hW : Below w.heap.size w W) => ha.mono hW)
  have LB := Lib.hid (fun W (hW : Below w.heap.size w W) => hb.mono hW)
  have MA := Lib.hid (fun W (h : Ls W A n c a) => refMay_any A n c W.heap.size a W h.rd (by omega))
  have MB_ := Lib.hid (fun W (h : Ls W A' n' c' b) => refMay_any A' n' c' W.heap.size b W h.rd (by omega))
  rw [hma] at MA
  rw [hmb] at MB_
  have BO := Lib.hid (fun W (h : Ls W A n c a) (h' : Ls W A' n' c' b) => both2 h h' (by omega) (by omega) hma hmb)
  have AN := Lib.hid (fun W (h : Ls W A n c a) (h' : Ls W A' n' c' b) => any2 h h' (by omega) (by omega) hma hmb)
  have LE := Lib.hid (fun W (h : Ls W A n c a) (h' : Ls W A' n' c' b) => less2 h h' (by omega) (by omega) hma hmb)
  have HA := Lib.hid (fun W (h : Ls W A n c a) => refHas_any A n c W.heap.size a x W h.rd (by omega))
  have HB := Lib.hid (fun W (h : Ls W A' n' c' b) => refHas_any A' n' c' W.heap.size b x W h.rd (by omega))
  have hal := ha.len
  have hbl := hb.len
  have hlen := Setp.both_any_len a b ((Setp.may_iff a).1 hma).2 ((Setp.may_iff b).1 hmb).2
  have hlp : (Setp.bothL a b).length ≤ n := by rw [← hal]; exact List.length_filter_le _ _
  have hlr : (Setp.lessL a b).length ≤ n := by rw [← hal]; exact List.length_filter_le _ _
  have mp := Setp.mem_both x a b
  have mq := Setp.mem_any2 x a b
  have mr := Setp.mem_less x a b
  have yp := Setp.may_both (b := b) hma
  have yq := Setp.may_merge hma hmb
  have yr := Setp.may_less (b := b) hma
  generalize Setp.bothL a b = P at *
  generalize Setp.merge a b = Q at *
  generalize Setp.lessL a b = R at *
  obtain ⟨np, hnp⟩ : ∃ np, P.length = np := ⟨_, rfl⟩
  obtain ⟨nq, hnq⟩ : ∃ nq, Q.length = nq := ⟨_, rfl⟩
  obtain ⟨nr, hnr⟩ : ∃ nr, R.length = nr := ⟨_, rfl⟩
  obtain ⟨ia, hia⟩ : ∃ ia, decide (x ∈ a) = ia := ⟨_, rfl⟩
  obtain ⟨ib, hib⟩ : ∃ ib, decide (x ∈ b) = ib := ⟨_, rfl⟩
  rw [hia, hib] at mp mq mr
  rw [hia] at HA
  rw [hib] at HB
  unfold SlErrI at BO AN LE
  rw [hnp] at BO
  rw [hnq] at AN
  rw [hnr] at LE
  have hsum : (np : Int) + (nq : Int) = (n : Int) + (n' : Int) := by omega
  have hs2 : (n : Int) + (n' : Int) ≤ 600 := by omega
  have v1 : IntKind.i64.wrap ((np : Int) + (nq : Int)) = (n : Int) + (n' : Int) := by rw [hsum, show ((n : Int) + (n' : Int)) = ((n + n' : Nat) : Int) by omega, IntKind.wrap_i64]; omega
  have v2 : IntKind.i64.wrap ((n : Int) + (n' : Int)) = (n : Int) + (n' : Int) := by rw [show ((n : Int) + (n' : Int)) = ((n + n' : Nat) : Int) by omega, IntKind.wrap_i64]; omega
  have YP := Lib.hid (fun W Ap cp (h : Ls W Ap np cp P) => may_any Ap np cp W.heap.size P W h.rd (by omega))
  have YQ := Lib.hid (fun W Ap cp (h : Ls W Ap nq cp Q) => may_any Ap nq cp W.heap.size Q W h.rd (by omega))
  have YR := Lib.hid (fun W Ap cp (h : Ls W Ap nr cp R) => may_any Ap nr cp W.heap.size R W h.rd (by omega))
  have HP := Lib.hid (fun W Ap cp (h : Ls W Ap np cp P) => refHas_any Ap np cp W.heap.size P x W h.rd (by omega))
  have HQ := Lib.hid (fun W Ap cp (h : Ls W Ap nq cp Q) => refHas_any Ap nq cp W.heap.size Q x W h.rd (by omega))
  have HR := Lib.hid (fun W Ap cp (h : Ls W Ap nr cp R) => refHas_any Ap nr cp W.heap.size R x W h.rd (by omega))
  rw [yp] at YP
  rw [yq] at YQ
  rw [yr] at YR
  rw [mp] at HP
  rw [mq] at HQ
  rw [mr] at HR
  clear mp mq mr yp yq yr hia hib hnp hnq hnr hlp hlr hlen hal hbl hma hmb ha hb hn hn'
  replace hs2 := Lib.hid hs2
  replace hsum := Lib.hid hsum
  go_enter Try.func8, Try.ntmps8
  go_wp2_with fail
  refine (alive_any _).mono ?_; rintro e w1 ⟨rfl, hB1⟩
  replace hB1 := Lib.hid hB1
  go_wp2_with fail
  refine (MA.out _ (LA.out _ hB1.out)).mono ?_; rintro e w2 ⟨rfl, hD⟩
  have HB2 := Lib.hid (below_thenI hB1.out (hD.below _))
  clear hD
  go_wp2_with fail
  refine (MB_.out _ (LB.out _ HB2.out)).mono ?_; rintro e w3 ⟨rfl, hD⟩
  have HB3 := Lib.hid (below_thenI HB2.out (hD.below _))
  clear hD
  go_wp2_with fail
  refine (BO.out _ (LA.out _ HB3.out) (LB.out _ HB3.out)).mono ?_; rintro e w4 ⟨Ap, cp, rfl, hf⟩
  have HB4 := Lib.hid (below_thenI HB3.out hf.below)
  have LP := Lib.hid (Ls.own hf)
  clear hf
  go_wp2_with fail
  refine (AN.out _ (LA.out _ HB4.out) (LB.out _ HB4.out)).mono ?_; rintro e w5 ⟨Aq, cq, rfl, hf⟩
  have HB5 := Lib.hid (below_thenI HB4.out hf.below)
  replace LP := Lib.hid (LP.out.mono hf.below)
  have LQ := Lib.hid (Ls.own hf)
  clear hf
  go_wp2_with fail
  refine (LE.out _ (LA.out _ HB5.out) (LB.out _ HB5.out)).mono ?_; rintro e w6 ⟨Ar, cr, rfl, hf⟩
  have HB6 := Lib.hid (below_thenI HB5.out hf.below)
  replace LP := Lib.hid (LP.out.mono hf.below)
  replace LQ := Lib.hid (LQ.out.mono hf.below)
  have LR := Lib.hid (Ls.own hf)
  clear hf
  go_wp2_with fail; refine (HA.out _ (LA.out _ HB6.out)).mono ?_; rintro e w' ⟨rfl, rfl⟩
  go_wp2_with fail; refine (HB.out _ (LB.out _ HB6.out)).mono ?_; rintro e w' ⟨rfl, rfl⟩
  clear BO AN LE MA MB_ HA HB
  cases ia <;> cases ib
  all_goals
    simp only [Bool.and_true, Bool.and_false, Bool.or_true, Bool.or_false, Bool.not_true, Bool.not_false] at HP HQ HR
    go_wp2_with fail; refine (YP.out _ _ _ LP.out).mono ?_; rintro e w' ⟨rfl, rfl⟩
    go_wp2_with fail; refine (YQ.out _ _ _ LQ.out).mono ?_; rintro e w' ⟨rfl, rfl⟩
    go_wp2_with fail; refine (YR.out _ _ _ LR.out).mono ?_; rintro e w' ⟨rfl, rfl⟩
    go_wp2_with fail; refine (HP.out _ _ _ LP.out).mono ?_; rintro e w' ⟨rfl, rfl⟩
    go_wp2_with fail; refine (HQ.out _ _ _ LQ.out).mono ?_; rintro e w' ⟨rfl, rfl⟩
    go_wp2_with fail; refine (HR.out _ _ _ LR.out).mono ?_; rintro e w' ⟨rfl, rfl⟩
    go_wp2_with fail
    go_ret
    exact ⟨rfl, HB6.out⟩

set_option maxRecDepth 100000 in
set_option maxHeartbeats 1000000 in
theorem setsHas_walk (A : Option Addr) (n c : Nat) (a : List Int) (A' : Option Addr) (n' c' : Nat) (b : List Int) (x : Int) (w : World) (_l : n ≤ c) (_m : c ≤ maxLen) (h0 : Reads w w.heap.size 1 A n (a.map I64) ∧ ∀ x ∈ a, (Lit.int .i64 x).wf = true) (_l' : n' ≤ c') (_m' : c' ≤ maxLen) (h0' : Reads w w.heap.size 1 A' n' (b.map I64) ∧ ∀ x ∈ b, (Lit.int .i64 x).wf = true) (_hx : (Lit.int .i64 x).wf = true) :
    Calls Try.prog 8 #[.slice A n c, .slice A' n' c', .int .i64 x] w fun e w' => e = .returned (.bool true) ∧ Below w.heap.size w w' := by
  have ha : Ls w A n c a := ⟨h0.1, _l, _m⟩
  have hb : Ls w A' n' c' b := ⟨h0'.1, _l', _m'⟩
  clear h0 h0' _l _m _l' _m' _hx
  by_cases h1 : 300 < n
  · have h1' : (300 : Int) < n := by omega
    clear ha hb
    go_enter Try.func8, Try.ntmps8
    go_wp2_with fail
    refine (alive_any _).mono ?_; rintro e w1 ⟨rfl, hB1⟩
    replace hB1 := Lib.hid hB1
    go_wp2_with fail
    go_ret
    exact ⟨rfl, hB1.out⟩
  have h1' : (n : Int) ≤ 300 := by omega
  by_cases h2 : 300 < n'
  · have h2' : (300 : Int) < n' := by omega
    clear ha hb
    go_enter Try.func8, Try.ntmps8
    go_wp2_with fail
    refine (alive_any _).mono ?_; rintro e w1 ⟨rfl, hB1⟩
    replace hB1 := Lib.hid hB1
    go_wp2_with fail
    go_ret
    exact ⟨rfl, hB1.out⟩
  have h2' : (n' : Int) ≤ 300 := by omega
  have LA := Lib.hid (fun W (hW : Below w.heap.size w W) => ha.mono hW)
  have LB := Lib.hid (fun W (hW : Below w.heap.size w W) => hb.mono hW)
  have MA := Lib.hid (fun W (h : Ls W A n c a) => refMay_any A n c W.heap.size a W h.rd (by omega))
  have MB_ := Lib.hid (fun W (h : Ls W A' n' c' b) => refMay_any A' n' c' W.heap.size b W h.rd (by omega))
  cases hma : Setp.may a
  · rw [hma] at MA
    clear ha hb
    go_enter Try.func8, Try.ntmps8
    go_wp2_with fail
    refine (alive_any _).mono ?_; rintro e w1 ⟨rfl, hB1⟩
    replace hB1 := Lib.hid hB1
    go_wp2_with fail
    refine (MA.out _ (LA.out _ hB1.out)).mono ?_; rintro e w2 ⟨rfl, hD⟩
    have HB2 := Lib.hid (below_thenI hB1.out (hD.below _))
    clear hD
    go_wp2_with fail
    go_ret
    exact ⟨rfl, HB2.out⟩
  · cases hmb : Setp.may b
    · rw [hma] at MA
      rw [hmb] at MB_
      clear ha hb
      go_enter Try.func8, Try.ntmps8
      go_wp2_with fail
      refine (alive_any _).mono ?_; rintro e w1 ⟨rfl, hB1⟩
      replace hB1 := Lib.hid hB1
      go_wp2_with fail
      refine (MA.out _ (LA.out _ hB1.out)).mono ?_; rintro e w2 ⟨rfl, hD⟩
      have HB2 := Lib.hid (below_thenI hB1.out (hD.below _))
      clear hD
      go_wp2_with fail
      refine (MB_.out _ (LB.out _ HB2.out)).mono ?_; rintro e w3 ⟨rfl, hD⟩
      have HB3 := Lib.hid (below_thenI HB2.out (hD.below _))
      clear hD
      go_wp2_with fail
      go_ret
      exact ⟨rfl, HB3.out⟩
    · exact setsHas_main A n c a A' n' c' b x w ha hb (by omega) (by omega) hma hmb
end Go.Proofs.Ytpgnaahfkcgflaa
