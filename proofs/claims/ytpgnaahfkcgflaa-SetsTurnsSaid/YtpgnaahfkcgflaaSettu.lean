/-
  The law SetsTurns, walked.
-/
import Derived.Test.YtpgnaahfkcgflaaSethp
namespace Go.Proofs.Ytpgnaahfkcgflaa
set_option linter.unusedSimpArgs false
set_option linter.unusedVariables false
open Go.RowKit

set_option maxRecDepth 100000 in
set_option maxHeartbeats 2000000 in
theorem setsTurns_main (m0 : Int) (A : Option Addr) (n c : Nat) (a : List Int) (A' : Option Addr) (n' c' : Nat) (b : List Int) (w : World) (ha : Ls w A n c a) (hb : Ls w A' n' c' b) (hn : n ≤ 300) (hn' : n' ≤ 300) (hma : Setp.may a = true) (hmb : Setp.may b = true) :
    Calls Try.prog 9 #[.int .i64 m0, .slice A n c, .slice A' n' c'] w fun e w' => e = .returned (.bool true) ∧ Below w.heap.size w w' := by
  have h1 : (n : Int) ≤ 300 := by omega
  have h2 : (n' : Int) ≤ 300 := by omega
  have LA := Lib.hid (fun W (hW : Below w.heap.size w W) => ha.mono hW)
  have LB := Lib.hid (fun W (hW : Below w.heap.size w W) => hb.mono hW)
  have MA := Lib.hid (fun W (h : Ls W A n c a) => refMay_any A n c W.heap.size a W h.rd (by omega))
  have MB_ := Lib.hid (fun W (h : Ls W A' n' c' b) => refMay_any A' n' c' W.heap.size b W h.rd (by omega))
  rw [hma] at MA
  rw [hmb] at MB_
  have BO := Lib.hid (fun W (h : Ls W A n c a) (h' : Ls W A' n' c' b) => both2 h h' (by omega) (by omega) hma hmb)
  have BO' := Lib.hid (fun W (h : Ls W A n c a) (h' : Ls W A' n' c' b) => both2 h' h (by omega) (by omega) hmb hma)
  have AN := Lib.hid (fun W (h : Ls W A n c a) (h' : Ls W A' n' c' b) => any2 h h' (by omega) (by omega) hma hmb)
  have AN' := Lib.hid (fun W (h : Ls W A n c a) (h' : Ls W A' n' c' b) => any2 h' h (by omega) (by omega) hmb hma)
  have LE := Lib.hid (fun W (h : Ls W A n c a) (h' : Ls W A' n' c' b) => less2 h h' (by omega) (by omega) hma hmb)
  rw [Setp.both_comm hmb hma] at BO'
  rw [Setp.any_comm hmb hma] at AN'
  have hal := ha.len
  have hbl := hb.len
  obtain ⟨ra, ea, Pa, -, hra, hca⟩ := rests m0 A n c a (by omega)
  obtain ⟨rb, eb, Pb, -, hrb, hcb⟩ := rests m0 A' n' c' b (by omega)
  have hlp : (Setp.bothL a b).length ≤ n := by rw [← hal]; exact List.length_filter_le _ _
  have hlr : (Setp.lessL a b).length ≤ n := by rw [← hal]; exact List.length_filter_le _ _
  have hlq : (Setp.merge a b).length ≤ n + n' := by have := Setp.len_merge a b; omega
  obtain ⟨np, hnp⟩ : ∃ np, (Setp.bothL a b).length = np := ⟨_, rfl⟩
  obtain ⟨nq, hnq⟩ : ∃ nq, (Setp.merge a b).length = nq := ⟨_, rfl⟩
  obtain ⟨nr, hnr⟩ : ∃ nr, (Setp.lessL a b).length = nr := ⟨_, rfl⟩
  obtain ⟨na, hna⟩ : ∃ na, ra.length = na := ⟨_, rfl⟩
  obtain ⟨nb, hnb⟩ : ∃ nb, rb.length = nb := ⟨_, rfl⟩
  unfold SlErrI at BO AN LE BO' AN' Pa Pb
  rw [hnp] at BO BO'
  rw [hnq] at AN AN'
  rw [hnr] at LE
  rw [hna] at Pa
  rw [hnb] at Pb
  have hnpb : np ≤ 300 := by omega
  have hnqb : nq ≤ 600 := by omega
  have hnab : na ≤ 20000 := by omega
  have hnbb : nb ≤ 20000 := by omega
  have SP := Lib.hid (fun W Ap cp Ap' cp' (h : Ls W Ap np cp (Setp.bothL a b)) (h' : Ls W Ap' np cp' (Setp.bothL a b)) => sameI_any Ap Ap' np cp cp' W.heap.size _ W h.rd h'.rd (by omega))
  have SQ := Lib.hid (fun W Ap cp Ap' cp' (h : Ls W Ap nq cp (Setp.merge a b)) (h' : Ls W Ap' nq cp' (Setp.merge a b)) => sameI_any Ap Ap' nq cp cp' W.heap.size _ W h.rd h'.rd (by omega))
  replace Pa := Lib.hid Pa
  replace Pb := Lib.hid Pb
  have FIN : Hid (ea = 0 → eb = 0 → ∃ (X : List Int) (nx nz : Nat), nx ≤ 60000 ∧ nz ≤ 60000 ∧
      (∀ W Ap cp, Ls W Ap np cp (Setp.bothL a b) → Calls Try.prog 19 #[.int .i64 m0, .slice Ap np cp] W fun e w' => ∃ A c, e = .returned (.tuple #[.slice A nx c, .int .i64 0]) ∧ Fresh W w' 3 A nx c (X.map I64)) ∧
      (∀ W Aa ca Ab cb, Ls W Aa na ca ra → Ls W Ab nb cb rb → Calls Try.prog 23 #[.slice (some ⟨W.heap.size, 0, none⟩) 2 2] (W.alloc (.cells #[.slice Aa na ca, .slice Ab nb cb] 25)) fun e w' => ∃ A c, e = .returned (.tuple #[.slice A nx c, .int .i64 0]) ∧ Fresh W w' 3 A nx c (X.map I64)) ∧
      (∀ W Ab cb, Ls W A n c a → Ls W Ab nb cb rb → Calls Try.prog 12 #[.slice (some ⟨W.heap.size, 0, none⟩) 2 2] (W.alloc (.cells #[.slice A n c, .slice Ab nb cb] 25)) fun e w' => ∃ A c, e = .returned (.tuple #[.slice A nr c, .int .i64 0]) ∧ Fresh W w' 3 A nr c ((Setp.lessL a b).map I64))) := fun hea heb => by
    rcases hca with ⟨h, _⟩ | ⟨_, m, rfl, hm2, _, hla, rfl⟩
    · omega
    rcases hcb with ⟨h, _⟩ | ⟨_, m', hmm, _, _, hlb, rfl⟩
    · omega
    obtain rfl : m = m' := by omega
    refine ⟨Setp.up (Setp.bothL a b) m, (Setp.up (Setp.bothL a b) m).length, 0, ?_, by omega, fun W Ap cp h => ?_, fun W Aa ca Ab cb h h' => ?_, fun W Ab cb h h' => ?_⟩
    · have := Setp.up_len (Setp.bothL a b) m; omega
    · exact rest_in m Ap np cp _ W h.rd hm2 (Setp.may_both hma) (fun x hx => hla x (List.mem_filter.1 hx).1)
    · have := any2 h h' (by omega) (by omega) (Setp.may_up a m) (Setp.may_up b m)
      rw [← Setp.rest_both m] at this
      exact this
    · have := both2 h h' (by omega) (by omega) hma (Setp.may_up b m)
      rw [Setp.both_rest hma hla] at this
      unfold SlErrI at this
      rw [hnr] at this
      exact this
  have hcA : ea = 13 ∨ ea = 0 := by
    rcases hca with ⟨h, _⟩ | ⟨h, _⟩
    · exact .inl h
    · exact .inr h
  have hcB : eb = 13 ∨ eb = 0 := by
    rcases hcb with ⟨h, _⟩ | ⟨h, _⟩
    · exact .inl h
    · exact .inr h
  replace hcA := Lib.hid hcA
  replace hcB := Lib.hid hcB
  generalize Setp.bothL a b = P at *
  generalize Setp.merge a b = Q at *
  generalize Setp.lessL a b = R at *
  have hnrb : nr ≤ 300 := by omega
  have SR := Lib.hid (fun W Ap cp Ap' cp' (h : Ls W Ap nr cp R) (h' : Ls W Ap' nr cp' R) => sameI_any Ap Ap' nr cp cp' W.heap.size _ W h.rd h'.rd (by omega))
  clear hnp hnq hnr hna hnb hlp hlr hlq hal hbl hma hmb ha hb hn hn' hca hcb hra hrb hnpb hnqb hnab hnbb hnrb
  go_enter Try.func9, Try.ntmps9
  go_wp2_with fail
  refine (alive_any _).mono ?_; rintro e w1 ⟨rfl, hB1⟩
  replace hB1 := Lib.hid hB1
  go_wp2_with fail
  refine (MA.out _ (LA.out _ hB1.out)).mono ?_; rintro e w2 ⟨rfl, hD⟩
  have HB2 := Lib.hid (below_thenI hB1.out (hD.below _))
  clear hD
  go_wp2_with fail
  refine (MB_.out _ (LB.out _ HB2.out)).mono ?_; rintro e w3 ⟨rfl, hD⟩
  have HB3 := Lib.hid (below_thenI HB2.out (hD.below _))
  clear hD
  go_wp2_with fail
  refine (BO.out _ (LA.out _ HB3.out) (LB.out _ HB3.out)).mono ?_; rintro e w4 ⟨Ap1, cp1, rfl, hf⟩
  have HB4 := Lib.hid (below_thenI HB3.out hf.below)
  have Lp1 := Lib.hid (Ls.own hf)
  clear hf
  go_wp2_with fail
  refine (BO'.out _ (LA.out _ HB4.out) (LB.out _ HB4.out)).mono ?_; rintro e w5 ⟨Ap2, cp2, rfl, hf⟩
  have HB5 := Lib.hid (below_thenI HB4.out hf.below)
  replace Lp1 := Lib.hid (Lp1.out.mono hf.below)
  have Lp2 := Lib.hid (Ls.own hf)
  clear hf
  go_wp2_with fail
  refine (AN.out _ (LA.out _ HB5.out) (LB.out _ HB5.out)).mono ?_; rintro e w6 ⟨Aq1, cq1, rfl, hf⟩
  have HB6 := Lib.hid (below_thenI HB5.out hf.below)
  replace Lp1 := Lib.hid (Lp1.out.mono hf.below)
  replace Lp2 := Lib.hid (Lp2.out.mono hf.below)
  have Lq1 := Lib.hid (Ls.own hf)
  clear hf
  go_wp2_with fail
  refine (AN'.out _ (LA.out _ HB6.out) (LB.out _ HB6.out)).mono ?_; rintro e w7 ⟨Aq2, cq2, rfl, hf⟩
  have HB7 := Lib.hid (below_thenI HB6.out hf.below)
  replace Lp1 := Lib.hid (Lp1.out.mono hf.below)
  replace Lp2 := Lib.hid (Lp2.out.mono hf.below)
  replace Lq1 := Lib.hid (Lq1.out.mono hf.below)
  have Lq2 := Lib.hid (Ls.own hf)
  clear hf
  go_wp2_with fail
  refine (SP.out _ _ _ _ _ Lp1.out Lp2.out).mono ?_; rintro e w8 ⟨rfl, hD⟩
  have HB8 := Lib.hid (below_thenI HB7.out (hD.below _))
  replace Lp1 := Lib.hid (Lp1.out.dr hD)
  replace Lp2 := Lib.hid (Lp2.out.dr hD)
  replace Lq1 := Lib.hid (Lq1.out.dr hD)
  replace Lq2 := Lib.hid (Lq2.out.dr hD)
  clear hD
  clear Lp2
  go_wp2_with fail
  refine (SQ.out _ _ _ _ _ Lq1.out Lq2.out).mono ?_; rintro e w9 ⟨rfl, hD⟩
  have HB9 := Lib.hid (below_thenI HB8.out (hD.below _))
  replace Lp1 := Lib.hid (Lp1.out.dr hD)
  replace Lq1 := Lib.hid (Lq1.out.dr hD)
  replace Lq2 := Lib.hid (Lq2.out.dr hD)
  clear hD
  clear Lq1 Lq2 BO BO' AN AN' SP SQ
  go_wp2_with fail
  refine (Pa.out _ (LA.out _ HB9.out).rd).mono ?_; rintro e w10 ⟨Ara, cra, rfl, hf⟩
  have HB10 := Lib.hid (below_thenI HB9.out hf.below)
  replace Lp1 := Lib.hid (Lp1.out.mono hf.below)
  have Lra := Lib.hid (Ls.own hf)
  clear hf
  go_wp2_with fail
  refine (Pb.out _ (LB.out _ HB10.out).rd).mono ?_; rintro e w11 ⟨Arb, crb, rfl, hf⟩
  have HB11 := Lib.hid (below_thenI HB10.out hf.below)
  replace Lp1 := Lib.hid (Lp1.out.mono hf.below)
  replace Lra := Lib.hid (Lra.out.mono hf.below)
  have Lrb := Lib.hid (Ls.own hf)
  clear hf
  rcases hcA.out with hea | hea
  · subst hea
    go_wp2_with fail
    go_ret
    exact ⟨rfl, HB11.out⟩
  rcases hcB.out with heb | heb
  · subst hea heb
    go_wp2_with fail
    go_ret
    exact ⟨rfl, HB11.out⟩
  obtain ⟨X, nx, nz, hnx, -, F1, F2, F3⟩ := FIN.out hea heb
  subst hea heb
  replace F1 := Lib.hid F1; replace F2 := Lib.hid F2; replace F3 := Lib.hid F3
  have SX := Lib.hid (fun W Ap cp Ap' cp' (h : Ls W Ap nx cp X) (h' : Ls W Ap' nx cp' X) => sameI_any Ap Ap' nx cp cp' W.heap.size _ W h.rd h'.rd (by omega))
  clear hnx FIN
  go_wp2_with fail
  refine (F1.out _ _ _ Lp1.out).mono ?_; rintro e w12 ⟨Ax, cx, rfl, hf⟩
  have HB12 := Lib.hid (below_thenI HB11.out hf.below)
  replace Lp1 := Lib.hid (Lp1.out.mono hf.below)
  replace Lra := Lib.hid (Lra.out.mono hf.below)
  replace Lrb := Lib.hid (Lrb.out.mono hf.below)
  have Lx := Lib.hid (Ls.own hf)
  clear hf
  go_wp2_with fail
  refine (F2.out _ _ _ _ _ Lra.out Lrb.out).mono ?_; rintro e w13 ⟨Ay, cy, rfl, hf⟩
  have HB13 := Lib.hid (below_thenI HB12.out hf.below)
  replace Lp1 := Lib.hid (Lp1.out.mono hf.below)
  replace Lra := Lib.hid (Lra.out.mono hf.below)
  replace Lrb := Lib.hid (Lrb.out.mono hf.below)
  replace Lx := Lib.hid (Lx.out.mono hf.below)
  have Ly := Lib.hid (Ls.own hf)
  clear hf
  go_wp2_with fail
  refine (F3.out _ _ _ (LA.out _ HB13.out) Lrb.out).mono ?_; rintro e w14 ⟨Az, cz, rfl, hf⟩
  have HB14 := Lib.hid (below_thenI HB13.out hf.below)
  replace Lp1 := Lib.hid (Lp1.out.mono hf.below)
  replace Lra := Lib.hid (Lra.out.mono hf.below)
  replace Lrb := Lib.hid (Lrb.out.mono hf.below)
  replace Lx := Lib.hid (Lx.out.mono hf.below)
  replace Ly := Lib.hid (Ly.out.mono hf.below)
  have Lz := Lib.hid (Ls.own hf)
  clear hf
  go_wp2_with fail
  refine (LE.out _ (LA.out _ HB14.out) (LB.out _ HB14.out)).mono ?_; rintro e w15 ⟨Av, cv, rfl, hf⟩
  have HB15 := Lib.hid (below_thenI HB14.out hf.below)
  replace Lp1 := Lib.hid (Lp1.out.mono hf.below)
  replace Lra := Lib.hid (Lra.out.mono hf.below)
  replace Lrb := Lib.hid (Lrb.out.mono hf.below)
  replace Lx := Lib.hid (Lx.out.mono hf.below)
  replace Ly := Lib.hid (Ly.out.mono hf.below)
  replace Lz := Lib.hid (Lz.out.mono hf.below)
  have Lv := Lib.hid (Ls.own hf)
  clear hf
  go_wp2_with fail
  refine (SX.out _ _ _ _ _ Lx.out Ly.out).mono ?_; rintro e w16 ⟨rfl, hD⟩
  have HB16 := Lib.hid (below_thenI HB15.out (hD.below _))
  replace Lp1 := Lib.hid (Lp1.out.dr hD)
  replace Lra := Lib.hid (Lra.out.dr hD)
  replace Lrb := Lib.hid (Lrb.out.dr hD)
  replace Lx := Lib.hid (Lx.out.dr hD)
  replace Ly := Lib.hid (Ly.out.dr hD)
  replace Lz := Lib.hid (Lz.out.dr hD)
  replace Lv := Lib.hid (Lv.out.dr hD)
  clear hD
  go_wp2_with fail
  refine (SR.out _ _ _ _ _ Lz.out Lv.out).mono ?_; rintro e w17 ⟨rfl, hD⟩
  have HB17 := Lib.hid (below_thenI HB16.out (hD.below _))
  replace Lp1 := Lib.hid (Lp1.out.dr hD)
  replace Lra := Lib.hid (Lra.out.dr hD)
  replace Lrb := Lib.hid (Lrb.out.dr hD)
  replace Lx := Lib.hid (Lx.out.dr hD)
  replace Ly := Lib.hid (Ly.out.dr hD)
  replace Lz := Lib.hid (Lz.out.dr hD)
  replace Lv := Lib.hid (Lv.out.dr hD)
  clear hD
  go_wp2_with fail
  go_ret
  exact ⟨rfl, HB17.out⟩

set_option maxRecDepth 100000 in
set_option maxHeartbeats 1000000 in
theorem setsTurns_walk (m0 : Int) (A : Option Addr) (n c : Nat) (a : List Int) (A' : Option Addr) (n' c' : Nat) (b : List Int) (w : World) (_hx : (Lit.int .i64 m0).wf = true) (_l : n ≤ c) (_m : c ≤ maxLen) (h0 : Reads w w.heap.size 1 A n (a.map I64) ∧ ∀ x ∈ a, (Lit.int .i64 x).wf = true) (_l' : n' ≤ c') (_m' : c' ≤ maxLen) (h0' : Reads w w.heap.size 1 A' n' (b.map I64) ∧ ∀ x ∈ b, (Lit.int .i64 x).wf = true) :
    Calls Try.prog 9 #[.int .i64 m0, .slice A n c, .slice A' n' c'] w fun e w' => e = .returned (.bool true) ∧ Below w.heap.size w w' := by
  have ha : Ls w A n c a := ⟨h0.1, _l, _m⟩
  have hb : Ls w A' n' c' b := ⟨h0'.1, _l', _m'⟩
  clear h0 h0' _l _m _l' _m' _hx
  by_cases h1 : 300 < n
  · have h1' : (300 : Int) < n := by omega
    clear ha hb
    go_enter Try.func9, Try.ntmps9
    go_wp2_with fail
    refine (alive_any _).mono ?_; rintro e w1 ⟨rfl, hB1⟩
    replace hB1 := Lib.hid hB1
    go_wp2_with fail
    go_ret
    exact ⟨rfl, hB1.out⟩
  have h1' : (n : Int) ≤ 300 := by omega
  by_cases h2 : 300 < n'
  · have h2' : (300 : Int) < n' := by omega
    clear ha hb
    go_enter Try.func9, Try.ntmps9
    go_wp2_with fail
    refine (alive_any _).mono ?_; rintro e w1 ⟨rfl, hB1⟩
    replace hB1 := Lib.hid hB1
    go_wp2_with fail
    go_ret
    exact ⟨rfl, hB1.out⟩
  have h2' : (n' : Int) ≤ 300 := by omega
  have LA := Lib.hid (fun W (hW : Below w.heap.size w W) => ha.mono hW)
  have LB := Lib.hid (fun W (hW : Below w.heap.size w W) => hb.mono hW)
  have MA := Lib.hid (fun W (h : Ls W A n c a) => refMay_any A n c W.heap.size a W h.rd (by omega))
  have MB_ := Lib.hid (fun W (h : Ls W A' n' c' b) => refMay_any A' n' c' W.heap.size b W h.rd (by omega))
  cases hma : Setp.may a
  · rw [hma] at MA
    clear ha hb
    go_enter Try.func9, Try.ntmps9
    go_wp2_with fail
    refine (alive_any _).mono ?_; rintro e w1 ⟨rfl, hB1⟩
    replace hB1 := Lib.hid hB1
    go_wp2_with fail
    refine (MA.out _ (LA.out _ hB1.out)).mono ?_; rintro e w2 ⟨rfl, hD⟩
    have HB2 := Lib.hid (below_thenI hB1.out (hD.below _))
    clear hD
    go_wp2_with fail
    go_ret
    exact ⟨rfl, HB2.out⟩
  · cases hmb : Setp.may b
    · rw [hma] at MA
      rw [hmb] at MB_
      clear ha hb
      go_enter Try.func9, Try.ntmps9
      go_wp2_with fail
      refine (alive_any _).mono ?_; rintro e w1 ⟨rfl, hB1⟩
      replace hB1 := Lib.hid hB1
      go_wp2_with fail
      refine (MA.out _ (LA.out _ hB1.out)).mono ?_; rintro e w2 ⟨rfl, hD⟩
      have HB2 := Lib.hid (below_thenI hB1.out (hD.below _))
      clear hD
      go_wp2_with fail
      refine (MB_.out _ (LB.out _ HB2.out)).mono ?_; rintro e w3 ⟨rfl, hD⟩
      have HB3 := Lib.hid (below_thenI HB2.out (hD.below _))
      clear hD
      go_wp2_with fail
      go_ret
      exact ⟨rfl, HB3.out⟩
    · exact setsTurns_main m0 A n c a A' n' c' b w ha hb (by omega) (by omega) hma hmb
end Go.Proofs.Ytpgnaahfkcgflaa
