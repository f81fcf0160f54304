/-
  The rest below a bound, walked.
-/
import Derived.Test.YtpgnaahfkcgflaaSetq
namespace Go.Proofs.Ytpgnaahfkcgflaa
set_option linter.unusedSimpArgs false
set_option linter.unusedVariables false
open Go.RowKit

set_option maxRecDepth 100000 in
set_option maxHeartbeats 8000000 in
theorem rest_in (b : Nat) (A : Option Addr) (n c : Nat) (l : List Int) (w : World) (h : Reads w w.heap.size 1 A n (l.map I64)) (hb : b ≤ 20000) (hm : Setp.may l = true) (hlt : ∀ x ∈ l, x < (b : Int)) :
    Calls Try.prog 19 #[.int .i64 (b : Nat), .slice A n c] w (SlErrI w (Setp.up l b) 0) := by
  have hl : l.length = n := by have := h.1; simpa using this
  have hnb : n ≤ b := by rw [← hl]; exact Setp.len_le hm hlt
  have M := Lib.hid (may_any A n c w.heap.size l w h (by omega))
  rw [hm] at M
  have LAST : Hid (∀ (h0 : 0 < n), ∃ y, l[n - 1]? = some y ∧ y < (b : Int)) := fun h0 => ⟨l[n - 1]'(by omega), List.getElem?_eq_getElem _, hlt _ (List.getElem_mem _)⟩
  obtain ⟨N, hN⟩ : ∃ N : Nat → Nat, N = fun k => Setp.nx (l ++ [(b : Int)]) k := ⟨_, rfl⟩
  have ST : Hid (∀ k, k ≤ n → ∃ x : Nat, (l ++ [(b : Int)])[k]? = some (x : Int) ∧ x ≤ b ∧ N k ≤ x ∧ N (k + 1) = x + 1 ∧ (∀ q, N k ≤ q → q < x → Setp.up l (q + 1) = Setp.up l q ++ [(q : Int)]) ∧ Setp.up l (min (N (k + 1)) b) = Setp.up l x ∧ Setp.up l (min (N k) b) = Setp.up l (N k)) := fun k hk => by
    rw [hN]; exact Setp.rest_step hm hlt k (by omega)
  have N0 : Hid (N 0 = 0) := by rw [hN]; rfl
  have NE : Hid (b ≤ N (n + 1)) := by
    obtain ⟨x, h1, h2, h3, h4, _⟩ := ST.out n (Nat.le_refl _)
    have : (l ++ [(b : Int)])[n]? = some (b : Int) := by rw [List.getElem?_append_right (by omega), hl, Nat.sub_self]; rfl
    rw [this] at h1
    injection h1 with h1
    unfold Hid; omega
  have CL := Lib.hid (fun (W : World) (hW : Below w.heap.size w W) => cloneI_any A n c w.heap.size l W (h.below hW) hW.size (by omega))
  unfold SlRet at CL
  have UL : Hid (∀ m, (Setp.up l m).length ≤ m) := fun m => Setp.up_len l m
  obtain ⟨U, hU⟩ : ∃ U : Nat → List Int, U = fun m => Setp.up l m := ⟨_, rfl⟩
  have U0 : Hid (U 0 = []) := by rw [hU]; rfl
  have H := Lib.hid h
  have LL := Lib.hid hl
  have hUe : Setp.up l b = U b := by rw [hU]
  rw [hUe]
  replace ST : Hid (∀ k, k ≤ n → ∃ x : Nat, (l ++ [(b : Int)])[k]? = some (x : Int) ∧ x ≤ b ∧ N k ≤ x ∧ N (k + 1) = x + 1 ∧ (∀ q, N k ≤ q → q < x → U (q + 1) = U q ++ [(q : Int)]) ∧ U (min (N (k + 1)) b) = U x ∧ U (min (N k) b) = U (N k)) := by rw [hU]; exact ST.out
  replace UL : Hid (∀ m, (U m).length ≤ m) := by rw [hU]; exact UL.out
  obtain ⟨i0, hi, hz0, hz1, hz2'⟩ := info_parts info_int
  replace hi := Lib.hid hi; replace hz0 := Lib.hid hz0; replace hz1 := Lib.hid hz1; replace hz2' := Lib.hid hz2'
  have hsub : (b : Int) - (n : Int) = ((b - n : Nat) : Int) := by omega
  have hb' : (b : Int) ≤ 20000 := by omega
  have hwn : IntKind.i64.wrap ((n : Int) - 1) = (n : Int) - 1 := by rw [IntKind.wrap_i64]; omega
  clear h hl hm hlt hN hU hUe
  have CONT : Hid (∀ (Q : Prop), Q → Q) := fun _ h => h
  have hd1 : decide ((b : Int) < 0) = false := by rw [decide_eq_false_iff_not]; omega
  have hd2 : decide ((20000 : Int) < (b : Int)) = false := by rw [decide_eq_false_iff_not]; omega
  rcases Nat.eq_zero_or_pos n with hn0 | hn0
  · have hd4 : decide ((0 : Int) < (n : Int)) = false := by rw [decide_eq_false_iff_not]; omega
    have hd5 : decide (0 < n) = false := by rw [decide_eq_false_iff_not]; omega
    replace hn0 := Lib.hid hn0
    clear LAST hwn
    go_enter Try.func19, Try.ntmps19
    go_wp2_with fail
    refine M.out.mono ?_; rintro e w1 ⟨rfl, rfl⟩
    go_wp2_with (at_make; refine wpList_make_own _ rfl _ _ 25 rfl w.heap.size 3 i0 (.int .i64 0) 1 Try.underlying25 hi.out hz0.out hz1.out .i64 .i64 _ (b - n) rfl rfl rfl (by rw [hz2'.out]; omega) (by unfold maxLen; omega) (Nat.le_refl _) ?_; intro w2 ho2 hg2; have HB2 := Lib.hid (show Below w.heap.size w w2 from (Below.refl w.heap.size w).grown hg2 (Nat.le_refl _) (fun k hk => by cases hk)); replace ho2 := Lib.hid ho2; clear hg2)
    obtain ⟨cs2, hb2, _⟩ := own_at ho2.out _ rfl
    have hz2 : w.heap.size < w2.heap.size := hb2.lt
    clear hb2
    refine (CL.out w2 HB2.out).mono ?_; rintro e w3 ⟨A3, c3, rfl, ho3, hB3⟩
    have HB3 := below_thenI HB2.out hB3
    have ho23 := own_belowI ho2.out hB3
    have hz3 : w2.heap.size ≤ w3.heap.size := hB3.size
    have hne3 : A3.map (·.block) ≠ some w.heap.size := fun e => by
      cases A3 with
      | none => cases e
      | some a =>
        obtain ⟨_, _, h1⟩ := own_at ho3 a rfl
        have : a.block = w.heap.size := by simpa using e
        omega
    have hN1 : n + 1 ≤ maxLen := by unfold maxLen; omega
    have hN2 : (n + 1) * 8 ≤ 140737488355328 := by omega
    have hs3 : w2.heap.size ≤ (w3.alloc (.cells #[.int .i64 (b : Nat)] 3)).heap.size := by simp; omega
    replace ho3 := Lib.hid ho3; replace ho23 := Lib.hid ho23; replace HB3 := Lib.hid HB3; replace hs3 := Lib.hid hs3; replace hne3 := Lib.hid hne3
    clear hB3 ho2 HB2 CL
    go_wp2_with (at_builtin; refine wpList_append_any _ rfl (.tmp 42) (.tmp 44) 25 rfl w2.heap.size 3 i0 (.int .i64 0) 1 8 Try.underlying25 hi.out hz0.out hz1.out hz2'.out rfl (by omega) A3 n c3 _ rfl (ho3.out.alloc (.cells #[.int .i64 (b : Nat)] 3)) (w3.heap.size + 1) _ 1 1 _ rfl (reads_one w3 _ _) (one_one rfl) hN1 hN2 hs3.out ?_; intro A5 c5 w5 ho5 hg5 hs5; have hown := ho3.out.alloc (.cells #[.int .i64 (b : Nat)] 3); have hB5 : Below w.heap.size w w5 := below_app (HB3.out.alloc HB3.out.size (.cells #[.int .i64 (b : Nat)] 3)) hg5 (own_base hown (Nat.le_of_lt hz2)) (Nat.le_trans HB3.out.size (by simp)); have ho25 := own_other (ho23.out.alloc (.cells #[.int .i64 (b : Nat)] 3)) hg5 hne3.out; have hne5 : (some w.heap.size : Option Nat) ≠ A5.map (·.block) := (fun e => by rcases hs5 with h1 | h1 <;> rw [h1] at e <;> first | exact hne3.out e.symm | (injection e with e; simp at e; omega)); replace ho5 := Lib.hid ho5; replace hB5 := Lib.hid hB5; replace ho25 := Lib.hid ho25; replace hne5 := Lib.hid hne5; clear hg5 hs5 hown)
    obtain ⟨g5, hA5⟩ : ∃ g5, A5 = some ⟨g5, 0, none⟩ := by
      rcases ho5.out.2 with ⟨_, h0⟩ | ⟨g, cap, cur, hv, _⟩
      · omega
      · injection hv with hv
        exact ⟨g, hv⟩
    subst hA5
    have hO5 : Hid (w5.ownsRow w2.heap.size 3 1 (.slice (some ⟨g5, 0, none⟩) (n + 1) c5) (n + 1) ((l ++ [(b : Int)]).map I64)) := by rw [List.map_append]; exact ho5.out
    clear ho5
    go_loopw [6, 7, 47] (fun v6 v7 v47 wr => ∃ (k c' m : Nat) (A1 : Option Addr), v6 = .slice A1 m c' ∧ v7 = .int .i64 (N k : Nat) ∧ v47 = .int .i64 k ∧ k ≤ n + 1 ∧ Hid (Below w.heap.size w wr) ∧ Hid ((U (min (N k) b)).length = m) ∧ Hid (wr.ownsRow w.heap.size 3 1 (.slice A1 m c') m ((U (min (N k) b)).map I64)) ∧ Hid (wr.ownsRow w2.heap.size 3 1 (.slice (some ⟨g5, 0, none⟩) (n + 1) c5) (n + 1) ((l ++ [(b : Int)]).map I64)) ∧ Hid (A1.map (·.block) ≠ some g5)) (fun _ _ v47 _ => n + 1 - (intOf v47).toNat)
    case atStart => exact ⟨0, b - n, 0, some ⟨w.heap.size, 0, none⟩, rfl, by rw [N0.out]; rfl, rfl, by omega, hB5, (by rw [N0.out, Nat.zero_min, U0.out]; rfl), (by rw [N0.out, Nat.zero_min, U0.out]; exact ho25.out), hO5, hne5.out⟩
    case round =>
      clear hB5 ho25 hne5 hO5 ho23 ho3 hs3 hne3 HB3
      obtain ⟨k, c', m, A1, rfl, rfl, rfl, hk, HB, HL, HO, HO5, HNE⟩ := hrel
      by_cases hkl : k < n + 1
      · have hkl' : (k : Int) < (n : Int) + 1 := by omega
        have hdk : decide ((k : Int) < (n : Int) + 1) = true := by rw [decide_eq_true_eq]; exact hkl'
        have hdk2 : decide (k < n + 1) = true := by rw [decide_eq_true_eq]; exact hkl
        obtain ⟨x, hxk, hxb, hNx, hNs, hrun, hUs, hUk⟩ := ST.out k (by omega)
        have ck : wr.cell? ⟨g5, k, none⟩ = some (.int .i64 (x : Nat)) := by
          have eadd : (⟨g5, 0, none⟩ : Addr).add k = ⟨g5, k, none⟩ := by unfold Addr.add; split <;> simp_all
          rw [← eadd]
          obtain ⟨ad', hA', hc'⟩ := ints_cells (Reads.of_own HO5.out) (by omega)
          injection hA' with hA'
          subst hA'
          obtain ⟨h1, e1⟩ := List.getElem?_eq_some_iff.1 hxk
          rw [hc' k h1, e1]
        replace hxk := Lib.hid hxk; replace hNs := Lib.hid hNs; replace hrun := Lib.hid hrun; replace hUs := Lib.hid hUs
        rw [hUk] at HL HO
        replace hUk := Lib.hid hUk
        obtain ⟨q0, Hq0⟩ : ∃ q0, Hid (N k = q0) := ⟨_, rfl⟩
        rw [Hq0.out] at HL HO hNx hrun
        rw [Hq0.out]
        go_wp2_with fail
        clear ck
        go_loopw [6, 7] (fun v6 v7 wr => ∃ (q c' m : Nat) (A1 : Option Addr), v6 = .slice A1 m c' ∧ v7 = .int .i64 q ∧ q0 ≤ q ∧ q ≤ x ∧ Hid (Below w.heap.size w wr) ∧ Hid ((U q).length = m) ∧ Hid (wr.ownsRow w.heap.size 3 1 (.slice A1 m c') m ((U q).map I64)) ∧ Hid (wr.ownsRow w2.heap.size 3 1 (.slice (some ⟨g5, 0, none⟩) (n + 1) c5) (n + 1) ((l ++ [(b : Int)]).map I64)) ∧ Hid (A1.map (·.block) ≠ some g5)) (fun _ v7 _ => x - (intOf v7).toNat)
        case atStart => exact ⟨q0, c', m, A1, rfl, rfl, Nat.le_refl _, hNx, HB, HL, HO, HO5, HNE⟩
        case round =>
          clear HB HL HO HO5 HNE
          obtain ⟨q, c', m, A1, rfl, rfl, hq0, hqx, HB, HL, HO, HO5, HNE⟩ := hrel
          by_cases hql : q < x
          · have hql' : (q : Int) < (x : Int) := by omega
            have hst := Lib.hid (hrun.out q hq0 hql)
            have hmq : m ≤ 20000 := by have := UL.out q; have := HL.out; omega
            have hgd : w.heap.size ≤ wr.heap.size := HB.out.size
            have hb1 : m + 1 ≤ maxLen := by unfold maxLen; omega
            have hb2 : (m + 1) * 8 ≤ 140737488355328 := by omega
            have hg5 : g5 < wr.heap.size := by obtain ⟨_, h1, _⟩ := own_at HO5.out _ rfl; exact h1.lt
            go_wp2_with (at_builtin; refine wpList_append_any _ rfl (.tmp 56) (.tmp 58) 25 rfl w.heap.size 3 i0 (.int .i64 0) 1 8 Try.underlying25 hi.out hz0.out hz1.out hz2'.out rfl (by omega) A1 m c' _ rfl (HO.out.alloc (.cells #[.int .i64 (q : Nat)] 3)) (wr.heap.size + 1) _ 1 1 _ rfl (reads_one wr _ _) (one_one rfl) hb1 hb2 (show w.heap.size ≤ (wr.alloc (.cells #[.int .i64 (q : Nat)] 3)).heap.size from Nat.le_trans hgd (by simp)) ?_; intro A6 c6 w6 ho6 hg6 hs6; have hown := HO.out.alloc (.cells #[.int .i64 (q : Nat)] 3); have hB6 : Below w.heap.size w w6 := below_app (HB.out.alloc hgd (.cells #[.int .i64 (q : Nat)] 3)) hg6 hown (Nat.le_trans hgd (by simp)); have ho56 := own_other (HO5.out.alloc (.cells #[.int .i64 (q : Nat)] 3)) hg6 HNE.out; have hne6 : A6.map (·.block) ≠ some g5 := (fun e => by rcases hs6 with h1 | h1 <;> rw [h1] at e <;> first | exact HNE.out e | (injection e with e; simp at e; omega)); replace ho6 := Lib.hid ho6; replace hB6 := Lib.hid hB6; replace ho56 := Lib.hid ho56; replace hne6 := Lib.hid hne6; clear hg6 hs6 hown)
            go_roundw
            case rel => exact ⟨q + 1, c6, m + 1, A6, rfl, by go_num, by omega, by omega, hB6, (by rw [hst.out, List.length_append, HL.out]; rfl), (by rw [hst.out, List.map_append]; exact ho6), ho56, hne6⟩
            case measure => simp [intOf]; omega
          · have hqx2 : q = x := by omega
            have hge : (x : Int) ≤ q := by omega
            rw [hqx2] at HL HO
            replace hqx2 := Lib.hid hqx2
            rw [← hUs.out] at HL HO
            go_wp2_with fail
            go_roundw
            case rel => exact ⟨k + 1, c', m, A1, rfl, (by rw [hNs.out]; go_num), by go_num, by omega, HB, HL, HO, HO5, HNE⟩
            case measure => simp [intOf]; omega
      · have hk2 : k = n + 1 := by omega
        have hge : (n : Int) + 1 ≤ k := by omega
        have hmin : Hid (min (N k) b = b) := by rw [hk2]; have := NE.out; unfold Hid; omega
        replace hk2 := Lib.hid hk2
        rw [hmin.out] at HL HO
        rw [← HL.out] at HO
        have HL2 := Lib.hid HL.out
        go_wp2_with fail
        go_ret2
        exact ⟨A1, c', (show Ending.returned (.tuple #[.slice A1 m c', .int .i64 0]) = _ by rw [HL2.out]), HO.out, HB.out⟩
  · obtain ⟨y, hy, hyb⟩ := LAST.out hn0
    obtain ⟨ad, rfl, hcell⟩ := ints_cells H.out hn0
    have c1 : w.cell? (ad.add (n - 1)) = some (.int .i64 y) := by
      obtain ⟨h1, e1⟩ := List.getElem?_eq_some_iff.1 hy
      rw [← e1]; exact hcell (n - 1) h1
    have hn1 : ((n : Int) - 1) = ((n - 1 : Nat) : Int) := by omega
    have hn1b : ((n - 1 : Nat) : Int) < (n : Int) := by omega
    have hn0' : (0 : Int) < (n : Int) := by omega
    have hd3 : decide ((b : Int) ≤ y) = false := by rw [decide_eq_false_iff_not]; omega
    replace hy := Lib.hid hy
    clear hcell
    rw [hn1] at hwn
    generalize hp : n - 1 = p at *
    replace hp := Lib.hid hp
    clear LAST
    go_enter Try.func19, Try.ntmps19
    go_wp2_with fail
    refine M.out.mono ?_; rintro e w1 ⟨rfl, rfl⟩
    go_wp2_with (at_make; refine wpList_make_own _ rfl _ _ 25 rfl w.heap.size 3 i0 (.int .i64 0) 1 Try.underlying25 hi.out hz0.out hz1.out .i64 .i64 _ (b - n) rfl rfl rfl (by rw [hz2'.out]; omega) (by unfold maxLen; omega) (Nat.le_refl _) ?_; intro w2 ho2 hg2; have HB2 := Lib.hid (show Below w.heap.size w w2 from (Below.refl w.heap.size w).grown hg2 (Nat.le_refl _) (fun k hk => by cases hk)); replace ho2 := Lib.hid ho2; clear hg2)
    obtain ⟨cs2, hb2, _⟩ := own_at ho2.out _ rfl
    have hz2 : w.heap.size < w2.heap.size := hb2.lt
    clear hb2
    refine (CL.out w2 HB2.out).mono ?_; rintro e w3 ⟨A3, c3, rfl, ho3, hB3⟩
    have HB3 := below_thenI HB2.out hB3
    have ho23 := own_belowI ho2.out hB3
    have hz3 : w2.heap.size ≤ w3.heap.size := hB3.size
    have hne3 : A3.map (·.block) ≠ some w.heap.size := fun e => by
      cases A3 with
      | none => cases e
      | some a =>
        obtain ⟨_, _, h1⟩ := own_at ho3 a rfl
        have : a.block = w.heap.size := by simpa using e
        omega
    have hN1 : n + 1 ≤ maxLen := by unfold maxLen; omega
    have hN2 : (n + 1) * 8 ≤ 140737488355328 := by omega
    have hs3 : w2.heap.size ≤ (w3.alloc (.cells #[.int .i64 (b : Nat)] 3)).heap.size := by simp; omega
    replace ho3 := Lib.hid ho3; replace ho23 := Lib.hid ho23; replace HB3 := Lib.hid HB3; replace hs3 := Lib.hid hs3; replace hne3 := Lib.hid hne3
    clear hB3 ho2 HB2 CL
    go_wp2_with (at_builtin; refine wpList_append_any _ rfl (.tmp 42) (.tmp 44) 25 rfl w2.heap.size 3 i0 (.int .i64 0) 1 8 Try.underlying25 hi.out hz0.out hz1.out hz2'.out rfl (by omega) A3 n c3 _ rfl (ho3.out.alloc (.cells #[.int .i64 (b : Nat)] 3)) (w3.heap.size + 1) _ 1 1 _ rfl (reads_one w3 _ _) (one_one rfl) hN1 hN2 hs3.out ?_; intro A5 c5 w5 ho5 hg5 hs5; have hown := ho3.out.alloc (.cells #[.int .i64 (b : Nat)] 3); have hB5 : Below w.heap.size w w5 := below_app (HB3.out.alloc HB3.out.size (.cells #[.int .i64 (b : Nat)] 3)) hg5 (own_base hown (Nat.le_of_lt hz2)) (Nat.le_trans HB3.out.size (by simp)); have ho25 := own_other (ho23.out.alloc (.cells #[.int .i64 (b : Nat)] 3)) hg5 hne3.out; have hne5 : (some w.heap.size : Option Nat) ≠ A5.map (·.block) := (fun e => by rcases hs5 with h1 | h1 <;> rw [h1] at e <;> first | exact hne3.out e.symm | (injection e with e; simp at e; omega)); replace ho5 := Lib.hid ho5; replace hB5 := Lib.hid hB5; replace ho25 := Lib.hid ho25; replace hne5 := Lib.hid hne5; clear hg5 hs5 hown)
    obtain ⟨g5, hA5⟩ : ∃ g5, A5 = some ⟨g5, 0, none⟩ := by
      rcases ho5.out.2 with ⟨_, h0⟩ | ⟨g, cap, cur, hv, _⟩
      · omega
      · injection hv with hv
        exact ⟨g, hv⟩
    subst hA5
    have hO5 : Hid (w5.ownsRow w2.heap.size 3 1 (.slice (some ⟨g5, 0, none⟩) (n + 1) c5) (n + 1) ((l ++ [(b : Int)]).map I64)) := by rw [List.map_append]; exact ho5.out
    clear ho5
    go_loopw [6, 7, 47] (fun v6 v7 v47 wr => ∃ (k c' m : Nat) (A1 : Option Addr), v6 = .slice A1 m c' ∧ v7 = .int .i64 (N k : Nat) ∧ v47 = .int .i64 k ∧ k ≤ n + 1 ∧ Hid (Below w.heap.size w wr) ∧ Hid ((U (min (N k) b)).length = m) ∧ Hid (wr.ownsRow w.heap.size 3 1 (.slice A1 m c') m ((U (min (N k) b)).map I64)) ∧ Hid (wr.ownsRow w2.heap.size 3 1 (.slice (some ⟨g5, 0, none⟩) (n + 1) c5) (n + 1) ((l ++ [(b : Int)]).map I64)) ∧ Hid (A1.map (·.block) ≠ some g5)) (fun _ _ v47 _ => n + 1 - (intOf v47).toNat)
    case atStart => exact ⟨0, b - n, 0, some ⟨w.heap.size, 0, none⟩, rfl, by rw [N0.out]; rfl, rfl, by omega, hB5, (by rw [N0.out, Nat.zero_min, U0.out]; rfl), (by rw [N0.out, Nat.zero_min, U0.out]; exact ho25.out), hO5, hne5.out⟩
    case round =>
      clear hB5 ho25 hne5 hO5 ho23 ho3 hs3 hne3 HB3
      obtain ⟨k, c', m, A1, rfl, rfl, rfl, hk, HB, HL, HO, HO5, HNE⟩ := hrel
      by_cases hkl : k < n + 1
      · have hkl' : (k : Int) < (n : Int) + 1 := by omega
        have hdk : decide ((k : Int) < (n : Int) + 1) = true := by rw [decide_eq_true_eq]; exact hkl'
        have hdk2 : decide (k < n + 1) = true := by rw [decide_eq_true_eq]; exact hkl
        obtain ⟨x, hxk, hxb, hNx, hNs, hrun, hUs, hUk⟩ := ST.out k (by omega)
        have ck : wr.cell? ⟨g5, k, none⟩ = some (.int .i64 (x : Nat)) := by
          have eadd : (⟨g5, 0, none⟩ : Addr).add k = ⟨g5, k, none⟩ := by unfold Addr.add; split <;> simp_all
          rw [← eadd]
          obtain ⟨ad', hA', hc'⟩ := ints_cells (Reads.of_own HO5.out) (by omega)
          injection hA' with hA'
          subst hA'
          obtain ⟨h1, e1⟩ := List.getElem?_eq_some_iff.1 hxk
          rw [hc' k h1, e1]
        replace hxk := Lib.hid hxk; replace hNs := Lib.hid hNs; replace hrun := Lib.hid hrun; replace hUs := Lib.hid hUs
        rw [hUk] at HL HO
        replace hUk := Lib.hid hUk
        obtain ⟨q0, Hq0⟩ : ∃ q0, Hid (N k = q0) := ⟨_, rfl⟩
        rw [Hq0.out] at HL HO hNx hrun
        rw [Hq0.out]
        go_wp2_with fail
        clear ck
        go_loopw [6, 7] (fun v6 v7 wr => ∃ (q c' m : Nat) (A1 : Option Addr), v6 = .slice A1 m c' ∧ v7 = .int .i64 q ∧ q0 ≤ q ∧ q ≤ x ∧ Hid (Below w.heap.size w wr) ∧ Hid ((U q).length = m) ∧ Hid (wr.ownsRow w.heap.size 3 1 (.slice A1 m c') m ((U q).map I64)) ∧ Hid (wr.ownsRow w2.heap.size 3 1 (.slice (some ⟨g5, 0, none⟩) (n + 1) c5) (n + 1) ((l ++ [(b : Int)]).map I64)) ∧ Hid (A1.map (·.block) ≠ some g5)) (fun _ v7 _ => x - (intOf v7).toNat)
        case atStart => exact ⟨q0, c', m, A1, rfl, rfl, Nat.le_refl _, hNx, HB, HL, HO, HO5, HNE⟩
        case round =>
          clear HB HL HO HO5 HNE
          obtain ⟨q, c', m, A1, rfl, rfl, hq0, hqx, HB, HL, HO, HO5, HNE⟩ := hrel
          by_cases hql : q < x
          · have hql' : (q : Int) < (x : Int) := by omega
            have hst := Lib.hid (hrun.out q hq0 hql)
            have hmq : m ≤ 20000 := by have := UL.out q; have := HL.out; omega
            have hgd : w.heap.size ≤ wr.heap.size := HB.out.size
            have hb1 : m + 1 ≤ maxLen := by unfold maxLen; omega
            have hb2 : (m + 1) * 8 ≤ 140737488355328 := by omega
            have hg5 : g5 < wr.heap.size := by obtain ⟨_, h1, _⟩ := own_at HO5.out _ rfl; exact h1.lt
            go_wp2_with (at_builtin; refine wpList_append_any _ rfl (.tmp 56) (.tmp 58) 25 rfl w.heap.size 3 i0 (.int .i64 0) 1 8 Try.underlying25 hi.out hz0.out hz1.out hz2'.out rfl (by omega) A1 m c' _ rfl (HO.out.alloc (.cells #[.int .i64 (q : Nat)] 3)) (wr.heap.size + 1) _ 1 1 _ rfl (reads_one wr _ _) (one_one rfl) hb1 hb2 (show w.heap.size ≤ (wr.alloc (.cells #[.int .i64 (q : Nat)] 3)).heap.size from Nat.le_trans hgd (by simp)) ?_; intro A6 c6 w6 ho6 hg6 hs6; have hown := HO.out.alloc (.cells #[.int .i64 (q : Nat)] 3); have hB6 : Below w.heap.size w w6 := below_app (HB.out.alloc hgd (.cells #[.int .i64 (q : Nat)] 3)) hg6 hown (Nat.le_trans hgd (by simp)); have ho56 := own_other (HO5.out.alloc (.cells #[.int .i64 (q : Nat)] 3)) hg6 HNE.out; have hne6 : A6.map (·.block) ≠ some g5 := (fun e => by rcases hs6 with h1 | h1 <;> rw [h1] at e <;> first | exact HNE.out e | (injection e with e; simp at e; omega)); replace ho6 := Lib.hid ho6; replace hB6 := Lib.hid hB6; replace ho56 := Lib.hid ho56; replace hne6 := Lib.hid hne6; clear hg6 hs6 hown)
            go_roundw
            case rel => exact ⟨q + 1, c6, m + 1, A6, rfl, by go_num, by omega, by omega, hB6, (by rw [hst.out, List.length_append, HL.out]; rfl), (by rw [hst.out, List.map_append]; exact ho6), ho56, hne6⟩
            case measure => simp [intOf]; omega
          · have hqx2 : q = x := by omega
            have hge : (x : Int) ≤ q := by omega
            rw [hqx2] at HL HO
            replace hqx2 := Lib.hid hqx2
            rw [← hUs.out] at HL HO
            go_wp2_with fail
            go_roundw
            case rel => exact ⟨k + 1, c', m, A1, rfl, (by rw [hNs.out]; go_num), by go_num, by omega, HB, HL, HO, HO5, HNE⟩
            case measure => simp [intOf]; omega
      · have hk2 : k = n + 1 := by omega
        have hge : (n : Int) + 1 ≤ k := by omega
        have hmin : Hid (min (N k) b = b) := by rw [hk2]; have := NE.out; unfold Hid; omega
        replace hk2 := Lib.hid hk2
        rw [hmin.out] at HL HO
        rw [← HL.out] at HO
        have HL2 := Lib.hid HL.out
        go_wp2_with fail
        go_ret2
        exact ⟨A1, c', (show Ending.returned (.tuple #[.slice A1 m c', .int .i64 0]) = _ by rw [HL2.out]), HO.out, HB.out⟩
end Go.Proofs.Ytpgnaahfkcgflaa
