/-
  Parity, the program's and the document's, walked.
-/
import Derived.Test.YtjbedcgacnnanaaDoorRsf
import Derived.Test.YtjbedcgacnnanaaDoorBv
namespace Go.Proofs.YtjbedcgacnnanaaDoor
set_option linter.unusedSimpArgs false
set_option linter.unusedVariables false
open Go.RowKit

/-- a list of lists of the call's own and an error are handed back -/
def LsErr (w : World) (n : Nat) (xss : List (List UInt8)) (er : Int) (e : Ending) (w' : World) : Prop := ∃ A c, e = .returned (.tuple #[.slice A n c, .int .i64 er]) ∧ Lists w' 0 w.heap.size A n c xss ∧ Below w.heap.size w w'
namespace Rsp
def parOk (m : Int) (l : List (List UInt8)) : Bool := may l.length m && alike l
/-- the parities of data -/
def parV (m : Int) (l : List (List UInt8)) : List (List UInt8) := if parOk m l = true then timesP m.toNat l.length (l.headD []).length (cauC l.length) l else []
def parE (m : Int) (l : List (List UInt8)) : Int := if parOk m l = true then 0 else 13
theorem parV_no {m : Int} {l : List (List UInt8)} (h : parOk m l = false) : parV m l = [] := by unfold parV; rw [if_neg (by rw [h]; decide)]
theorem parE_no {m : Int} {l : List (List UInt8)} (h : parOk m l = false) : parE m l = 13 := by unfold parE; rw [if_neg (by rw [h]; decide)]
theorem parV_yes {m : Int} {l : List (List UInt8)} (h : parOk m l = true) : parV m l = timesP m.toNat l.length (l.headD []).length (cauC l.length) l := by unfold parV; rw [if_pos h]
theorem parE_yes {m : Int} {l : List (List UInt8)} (h : parOk m l = true) : parE m l = 0 := by unfold parE; rw [if_pos h]
theorem alike_all {l : List (List UInt8)} (h : alike l = true) : ∀ x ∈ l, x.length = (l.headD []).length := by
  unfold alike at h
  rw [List.all_eq_true] at h
  exact fun x hx => by simpa using h x hx
end Rsp
theorem alikeD_any (A : Option Addr) (n c : Nat) (xss : List (List UInt8)) (w : World) (h : Rows8 w w.heap.size A n xss) (hn : n ≤ 100000) :
    Calls Tryd.prog 38 #[.slice A n c] w fun e w' => e = .returned (.bool (Rsp.alike xss)) ∧ Dr w w' :=
  (alike_any A n c _ xss w h hn).mono fun e w' h => ⟨h.1, h.2 ▸ Dr.refl _⟩
theorem refAlikeD_any (A : Option Addr) (n c : Nat) (xss : List (List UInt8)) (w : World) (h : Rows8 w w.heap.size A n xss) (hn : n ≤ 100000) :
    Calls Tryd.prog 43 #[.slice A n c] w fun e w' => e = .returned (.bool (Rsp.alike xss)) ∧ Dr w w' := refAlike_any A n c _ xss w h hn

set_option maxRecDepth 100000 in
set_option maxHeartbeats 4000000 in
theorem parity_any (m : Int) (A : Option Addr) (n c : Nat) (xss : List (List UInt8)) (w : World) (h : Rows8 w w.heap.size A n xss) (hn : n ≤ 100000) (hL : ∀ x ∈ xss, x.length ≤ 1000000) :
    Calls Tryd.prog 28 #[.int .i64 m, .slice A n c] w (LsErr w (Rsp.parV m xss).length (Rsp.parV m xss) (Rsp.parE m xss)) := by
  have hl : xss.length = n := by obtain ⟨_, _, h2, _⟩ := h; exact h2
  cases hm : Rsp.may (n : Int) m with
  | false =>
    rw [Rsp.parV_no (by unfold Rsp.parOk; rw [hl, hm]; rfl), Rsp.parE_no (by unfold Rsp.parOk; rw [hl, hm]; rfl)]
    have KM : Hid (∀ W, Calls Tryd.prog 37 #[.int .i64 n, .int .i64 m] W fun e w' => e = .returned (.bool false) ∧ W = w') := fun W => by rw [← hm]; exact rsMay_any _ _ _
    clear h hl hm hL
    go_enter Tryd.func28, Tryd.ntmps28
    go_wp2_with fail; refine (KM.out _).mono ?_; rintro e w' ⟨rfl, rfl⟩
    go_wp2_with fail
    go_ret2
    exact ⟨_, _, rfl, Lists.nil _ _ _ (Nat.zero_le _) (Nat.le_refl _), Below.refl _ _⟩
  | true =>
    have KM : Hid (∀ W, Calls Tryd.prog 37 #[.int .i64 n, .int .i64 m] W fun e w' => e = .returned (.bool true) ∧ W = w') := fun W => by rw [← hm]; exact rsMay_any _ _ _
    cases ha : Rsp.alike xss with
    | false =>
      rw [Rsp.parV_no (by unfold Rsp.parOk; rw [ha, Bool.and_false]), Rsp.parE_no (by unfold Rsp.parOk; rw [ha, Bool.and_false])]
      have KA : Hid (Calls Tryd.prog 38 #[.slice A n c] w fun e w' => e = .returned (.bool false) ∧ Dr w w') := by rw [← ha]; exact alikeD_any A n c xss w h hn
      clear h hl ha hm hL
      go_enter Tryd.func28, Tryd.ntmps28
      go_wp2_with fail; refine (KM.out _).mono ?_; rintro e w' ⟨rfl, rfl⟩
      go_wp2_with fail; refine KA.out.mono ?_; rintro e w1 ⟨rfl, hD⟩
      replace hD := Lib.hid hD
      go_wp2_with fail
      go_ret2
      exact ⟨_, _, rfl, Lists.nil _ _ _ (Nat.zero_le _) (Nat.le_of_eq hD.out.size.symm), hD.out.below _⟩
    | true =>
      have hok : Rsp.parOk m xss = true := by unfold Rsp.parOk; rw [hl, hm, ha]; rfl
      obtain ⟨p, hp⟩ : ∃ p : Nat, m = (p : Int) := by unfold Rsp.may at hm; simp at hm; exact ⟨m.toNat, by omega⟩
      subst hp
      have hnp : n + p ≤ 255 ∧ 1 ≤ n := by unfold Rsp.may at hm; simp at hm; omega
      rw [Rsp.parV_yes hok, Rsp.parE_yes hok, Int.toNat_natCast, hl, Rsp.timesP_len]
      have KA : Hid (Calls Tryd.prog 38 #[.slice A n c] w fun e w' => e = .returned (.bool true) ∧ Dr w w') := by rw [← ha]; exact alikeD_any A n c xss w h hn
      obtain ⟨L, hLL⟩ : ∃ L, (xss.headD []).length = L := ⟨_, rfl⟩
      have hal : ∀ x ∈ xss, x.length = L := by rw [← hLL]; exact Rsp.alike_all ha
      have hLm : L ≤ 1000000 := by
        rw [← hLL]
        cases xss with
        | nil => simp
        | cons a t => exact hL a (List.mem_cons_self ..)
      rw [hLL]
      have KC := Lib.hid (fun W => cauchy_in n p W hnp.1)
      unfold MRet at KC
      unfold mC at KC
      simp only [cellsTo_len] at KC
      have KT : Hid (∀ (W : World) (Am : Option Addr) (k cl : Nat), Below w.heap.size w W → p * n ≤ k → Reads W W.heap.size 1 Am (p * n) ((cellsTo n (cauC n) (p * n)).map B8) → Calls Tryd.prog 40 #[.agg #[.int .i64 p, .int .i64 n, .slice Am (p * n) k], .slice A n cl] W (LsRet W p (Rsp.timesP p n L (cauC n) xss))) :=
        fun W Am k cl hB hk hr => times_any p n L (cauC n) Am A k cl xss W (by omega) (by omega) hnp.2 hk hLm hr ((h.below hB).more hB.size) hal
      unfold LsRet at KT
      generalize Rsp.timesP p n L (cauC n) xss = yss at *
      clear h hl ha hm hL hok hLL hal hLm
      obtain ⟨N, hN⟩ : ∃ N, p * n = N := ⟨_, rfl⟩
      rw [hN] at KC KT
      generalize cellsTo n (cauC n) N = xc at *
      replace hN := Lib.hid hN
      have hz := (zero_of_info info_m).1
      go_enter Tryd.func28, Tryd.ntmps28
      go_wp2_with fail; refine (KM.out _).mono ?_; rintro e w' ⟨rfl, rfl⟩
      go_wp2_with fail; refine KA.out.mono ?_; rintro e w1 ⟨rfl, hD⟩
      replace hD := Lib.hid hD
      go_wp2_with fail
      refine (KC.out _).mono ?_; rintro e w2 ⟨Ac, kc, rfl, hoc, hBc⟩
      have hpc := mret_parts hoc
      have HB := Lib.hid (below_alloc (below_then (hD.out.below _) hBc) (.cells #[.int .i64 (p : Nat), .int .i64 (n : Nat), .slice Ac N kc] 75))
      have Mc := Lib.hid (MB.new (r := (p : Nat)) (c := (n : Nat)) hpc.1 hpc.2)
      clear hpc hoc hBc
      obtain ⟨qc0, qc1, qc2⟩ := Mc.out.cells
      go_wp2_with fail
      refine (KT.out _ _ _ _ HB.out Mc.out.cap Mc.out.rd).mono ?_; rintro e w3 ⟨A3, c3, rfl, hl3, hB3⟩
      replace hl3 := Lib.hid hl3
      replace hB3 := Lib.hid hB3
      clear qc0 qc1 qc2
      go_wp2_with fail
      go_ret2
      exact ⟨_, _, rfl, hl3.out.older (Nat.le_refl _) (Nat.zero_le _) HB.out.size, below_then HB.out hB3.out⟩

set_option maxRecDepth 100000 in
set_option maxHeartbeats 4000000 in
theorem refParity_any (m : Int) (A : Option Addr) (n c : Nat) (xss : List (List UInt8)) (w : World) (h : Rows8 w w.heap.size A n xss) (hn : n ≤ 100000) (hL : ∀ x ∈ xss, x.length ≤ 1000000) :
    Calls Tryd.prog 30 #[.int .i64 m, .slice A n c] w (LsErr w (Rsp.parV m xss).length (Rsp.parV m xss) (Rsp.parE m xss)) := by
  have hl : xss.length = n := by obtain ⟨_, _, h2, _⟩ := h; exact h2
  cases hm : Rsp.may (n : Int) m with
  | false =>
    rw [Rsp.parV_no (by unfold Rsp.parOk; rw [hl, hm]; rfl), Rsp.parE_no (by unfold Rsp.parOk; rw [hl, hm]; rfl)]
    have KM : Hid (∀ W, Calls Tryd.prog 24 #[.int .i64 n, .int .i64 m] W fun e w' => e = .returned (.bool false) ∧ W = w') := fun W => by rw [← hm]; exact rsRefMay_any _ _ _
    clear h hl hm hL
    go_enter Tryd.func30, Tryd.ntmps30
    go_wp2_with fail; refine (KM.out _).mono ?_; rintro e w' ⟨rfl, rfl⟩
    go_wp2_with fail
    go_ret2
    exact ⟨_, _, rfl, Lists.nil _ _ _ (Nat.zero_le _) (Nat.le_refl _), Below.refl _ _⟩
  | true =>
    have KM : Hid (∀ W, Calls Tryd.prog 24 #[.int .i64 n, .int .i64 m] W fun e w' => e = .returned (.bool true) ∧ W = w') := fun W => by rw [← hm]; exact rsRefMay_any _ _ _
    cases ha : Rsp.alike xss with
    | false =>
      rw [Rsp.parV_no (by unfold Rsp.parOk; rw [ha, Bool.and_false]), Rsp.parE_no (by unfold Rsp.parOk; rw [ha, Bool.and_false])]
      have KA : Hid (Calls Tryd.prog 43 #[.slice A n c] w fun e w' => e = .returned (.bool false) ∧ Dr w w') := by rw [← ha]; exact refAlikeD_any A n c xss w h hn
      clear h hl ha hm hL
      go_enter Tryd.func30, Tryd.ntmps30
      go_wp2_with fail; refine (KM.out _).mono ?_; rintro e w' ⟨rfl, rfl⟩
      go_wp2_with fail; refine KA.out.mono ?_; rintro e w1 ⟨rfl, hD⟩
      replace hD := Lib.hid hD
      go_wp2_with fail
      go_ret2
      exact ⟨_, _, rfl, Lists.nil _ _ _ (Nat.zero_le _) (Nat.le_of_eq hD.out.size.symm), hD.out.below _⟩
    | true =>
      have hok : Rsp.parOk m xss = true := by unfold Rsp.parOk; rw [hl, hm, ha]; rfl
      obtain ⟨p, hp⟩ : ∃ p : Nat, m = (p : Int) := by unfold Rsp.may at hm; simp at hm; exact ⟨m.toNat, by omega⟩
      subst hp
      have hnp : n + p ≤ 255 ∧ 1 ≤ n := by unfold Rsp.may at hm; simp at hm; omega
      rw [Rsp.parV_yes hok, Rsp.parE_yes hok, Int.toNat_natCast, hl, Rsp.timesP_len]
      have KA : Hid (Calls Tryd.prog 43 #[.slice A n c] w fun e w' => e = .returned (.bool true) ∧ Dr w w') := by rw [← ha]; exact refAlikeD_any A n c xss w h hn
      obtain ⟨L, hLL⟩ : ∃ L, (xss.headD []).length = L := ⟨_, rfl⟩
      have hal : ∀ x ∈ xss, x.length = L := by rw [← hLL]; exact Rsp.alike_all ha
      have hLm : L ≤ 1000000 := by
        rw [← hLL]
        cases xss with
        | nil => simp
        | cons a t => exact hL a (List.mem_cons_self ..)
      rw [hLL]
      have KC := Lib.hid (fun W => refCauchy_in n p W hnp.1)
      unfold MRet at KC
      unfold mC at KC
      simp only [cellsTo_len] at KC
      have KT : Hid (∀ (W : World) (Am : Option Addr) (k cl : Nat), Below w.heap.size w W → p * n ≤ k → Reads W W.heap.size 1 Am (p * n) ((cellsTo n (cauC n) (p * n)).map B8) → Calls Tryd.prog 45 #[.agg #[.int .i64 p, .int .i64 n, .slice Am (p * n) k], .slice A n cl] W (LsRet W p (Rsp.timesP p n L (cauC n) xss))) :=
        fun W Am k cl hB hk hr => refTimes_any p n L (cauC n) Am A k cl xss W (by omega) (by omega) hnp.2 hk hLm hr ((h.below hB).more hB.size) hal
      unfold LsRet at KT
      generalize Rsp.timesP p n L (cauC n) xss = yss at *
      clear h hl ha hm hL hok hLL hal hLm
      obtain ⟨N, hN⟩ : ∃ N, p * n = N := ⟨_, rfl⟩
      rw [hN] at KC KT
      generalize cellsTo n (cauC n) N = xc at *
      replace hN := Lib.hid hN
      have hz := (zero_of_info info_m).1
      go_enter Tryd.func30, Tryd.ntmps30
      go_wp2_with fail; refine (KM.out _).mono ?_; rintro e w' ⟨rfl, rfl⟩
      go_wp2_with fail; refine KA.out.mono ?_; rintro e w1 ⟨rfl, hD⟩
      replace hD := Lib.hid hD
      go_wp2_with fail
      refine (KC.out _).mono ?_; rintro e w2 ⟨Ac, kc, rfl, hoc, hBc⟩
      have hpc := mret_parts hoc
      have HB := Lib.hid (below_alloc (below_then (hD.out.below _) hBc) (.cells #[.int .i64 (p : Nat), .int .i64 (n : Nat), .slice Ac N kc] 75))
      have Mc := Lib.hid (MB.new (r := (p : Nat)) (c := (n : Nat)) hpc.1 hpc.2)
      clear hpc hoc hBc
      obtain ⟨qc0, qc1, qc2⟩ := Mc.out.cells
      go_wp2_with fail
      refine (KT.out _ _ _ _ HB.out Mc.out.cap Mc.out.rd).mono ?_; rintro e w3 ⟨A3, c3, rfl, hl3, hB3⟩
      replace hl3 := Lib.hid hl3
      replace hB3 := Lib.hid hB3
      clear qc0 qc1 qc2
      go_wp2_with fail
      go_ret2
      exact ⟨_, _, rfl, hl3.out.older (Nat.le_refl _) (Nat.zero_le _) HB.out.size, below_then HB.out hB3.out⟩
end Go.Proofs.YtjbedcgacnnanaaDoor
