/-
  The document's rest where there is one; the law SetsRest.
-/
import Derived.Test.YtpgnaahfkcgflaaSety
namespace Go.Proofs.Ytpgnaahfkcgflaa
set_option linter.unusedSimpArgs false
set_option linter.unusedVariables false
open Go.RowKit

namespace Setp
theorem low_next {l : List Int} (h : may l = true) (x : Nat) : (∀ hk : low (x : Int) l < l.length, l[low (x : Int) l] = x → low ((x : Int) + 1) l = low (x : Int) l + 1 ∧ up l (x + 1) = up l x) ∧
    ((∀ hk : low (x : Int) l < l.length, l[low (x : Int) l] ≠ x) → low ((x : Int) + 1) l = low (x : Int) l ∧ up l (x + 1) = up l x ++ [(x : Int)]) := by
  have hr := may_rising h
  constructor
  · intro hk he
    refine ⟨?_, up_mem (by rw [← he]; exact List.getElem_mem hk)⟩
    symm
    apply low_unique _ _ _ (by omega)
    · intro j hj hjk
      by_cases e : j = low (x : Int) l
      · subst e; omega
      · have := hr j (low (x : Int) l) hk (by omega); omega
    · intro hk2
      have := hr (low (x : Int) l) (low (x : Int) l + 1) hk2 (by omega); omega
  · intro hne
    refine ⟨?_, ?_⟩
    · symm
      apply low_unique _ _ _ (low_le _ _)
      · intro j hj hjk
        have := low_lt (x : Int) l j hj hjk; omega
      · intro hk
        have h1 := low_ge (x : Int) l hk
        have h2 := hne hk
        omega
    · have hno : ¬ (x : Int) ∈ l := by
        intro hm
        obtain ⟨j, hj, hx⟩ := List.getElem_of_mem hm
        have e : j = low (x : Int) l := low_unique _ _ _ (by omega) (fun i hi hij => by have := hr i j hj hij; omega) (fun _ => by omega)
        exact hne (by omega) (by simpa only [e] using hx)
      show (if (x : Int) ∈ l then up l x else up l x ++ [(x : Int)]) = _
      rw [if_neg hno]
end Setp

set_option maxRecDepth 100000 in
set_option maxHeartbeats 8000000 in
theorem refRest_in (b : Nat) (A : Option Addr) (n c : Nat) (l : List Int) (w : World) (h : Reads w w.heap.size 1 A n (l.map I64)) (hn : n < 4294967296) (hb : b ≤ 20000) (hm : Setp.may l = true) (hlt : ∀ x ∈ l, x < (b : Int)) :
    Calls Try.prog 20 #[.int .i64 (b : Nat), .slice A n c] w (SlErrI w (Setp.up l b) 0) := by
  have hl : l.length = n := by have := h.1; simpa using this
  have M := Lib.hid (refMay_any A n c w.heap.size l w h hn)
  rw [hm] at M
  obtain ⟨U, hU⟩ : ∃ U : Nat → List Int, U = fun m => Setp.up l m := ⟨_, rfl⟩
  have U0 : Hid (U 0 = []) := by rw [hU]; rfl
  have UL : Hid (∀ m, (U m).length ≤ m) := fun m => by rw [hU]; exact Setp.up_len l m
  have hUe : Setp.up l b = U b := by rw [hU]
  have ST1 : Hid (∀ (x : Nat) (hk : Setp.low (x : Int) l < l.length), l[Setp.low (x : Int) l] = x → Setp.low ((x : Int) + 1) l = Setp.low (x : Int) l + 1 ∧ U (x + 1) = U x) := fun x hk he => by rw [hU]; exact (Setp.low_next hm x).1 hk he
  have ST2 : Hid (∀ (x : Nat), (∀ hk : Setp.low (x : Int) l < l.length, l[Setp.low (x : Int) l] ≠ x) → Setp.low ((x : Int) + 1) l = Setp.low (x : Int) l ∧ U (x + 1) = U x ++ [(x : Int)]) := fun x he => by rw [hU]; exact (Setp.low_next hm x).2 he
  have LW0 : Hid (Setp.low ((0 : Nat) : Int) l = 0) := by
    unfold Hid; symm
    exact Setp.low_unique _ _ _ (by omega) (fun j _ h => by omega) (fun h => by have := Setp.may_pos hm 0 h; simpa using this)
  have LLE : Hid (∀ x : Int, Setp.low x l ≤ n) := fun x => by rw [← hl]; exact Setp.low_le x l
  have ALL : Hid (∀ (k : Nat) (hk : k < l.length), l[k] < (b : Int)) := fun k hk => hlt _ (List.getElem_mem hk)
  have H := Lib.hid h
  have L := Lib.hid hl
  rw [hUe]
  obtain ⟨i0, hi, hz0, hz1, hz2'⟩ := info_parts info_int
  replace hi := Lib.hid hi; replace hz0 := Lib.hid hz0; replace hz1 := Lib.hid hz1; replace hz2' := Lib.hid hz2'
  have hd1 : decide ((b : Int) < 0) = false := by rw [decide_eq_false_iff_not]; omega
  have hd2 : decide ((20000 : Int) < (b : Int)) = false := by rw [decide_eq_false_iff_not]; omega
  clear h hl hm hlt hU hUe
  go_enter Try.func20, Try.ntmps20
  go_wp2_with fail
  refine M.out.mono ?_; rintro e w1 ⟨rfl, hD1⟩
  replace hD1 := Lib.hid hD1
  go_wp2_with fail
  go_loop [6] (fun v6 => ∃ k : Nat, v6 = .int .i64 k ∧ k ≤ n) (fun v6 => n - (intOf v6).toNat)
  case atStart => exact ⟨0, rfl, by omega⟩
  case round =>
    obtain ⟨k, rfl, hk⟩ := hrel
    by_cases hlt : k < n
    · have hlt' : (k : Int) < n := by omega
      obtain ⟨ad, rfl, hcell⟩ := ints_cells (hD1.out.reads H.out) (by omega)
      have hkx : k < l.length := by rw [L.out]; exact hlt
      have c1 := hcell k hkx
      have Hy := ALL.out k hkx
      clear hcell
      generalize l[k] = y at *
      go_wp2_with fail
      go_round
      case rel => exact ⟨k + 1, by go_num, by omega⟩
      case measure => simp [intOf]; omega
    · have hge : (n : Int) ≤ k := by omega
      have HB1 : Hid (Below w.heap.size w w1) := hD1.out.below _
      go_wp2_with fail
      go_loopw [7, 8, 9] (fun v7 v8 v9 wr => ∃ (x c' m kk : Nat) (A1 : Option Addr), v7 = .slice A1 m c' ∧ v8 = .int .i64 kk ∧ v9 = .int .i64 x ∧ x ≤ b ∧ kk ≤ n ∧ Hid (Setp.low (x : Int) l = kk) ∧ Hid (Below w.heap.size w wr) ∧ Hid ((U x).length = m) ∧ Hid (wr.ownsRow w.heap.size 3 1 (.slice A1 m c') m ((U x).map I64))) (fun _ _ v9 _ => b - (intOf v9).toNat)
      case atStart => exact ⟨0, 0, 0, 0, none, rfl, rfl, rfl, by omega, by omega, LW0, HB1, (by rw [U0.out]; rfl), (by rw [U0.out]; exact World.ownsRow_nil _ _ _ 1)⟩
      case round =>
        obtain ⟨x, c', m, kk, A1, rfl, rfl, rfl, hxb, hkn, HK, HB, HL, HO⟩ := hrel
        by_cases hxl : x < b
        · have hxl' : (x : Int) < (b : Int) := by omega
          have hml : m ≤ 20000 := by have := UL.out x; have := HL.out; omega
          have hgd : w.heap.size ≤ wr.heap.size := HB.out.size
          have hb1 : m + 1 ≤ maxLen := by unfold maxLen; omega
          have hb2 : (m + 1) * 8 ≤ 140737488355328 := by omega
          by_cases hkl : kk < n
          · have hkl' : (kk : Int) < (n : Int) := by omega
            have hdk : decide ((kk : Int) < (n : Int)) = true := by rw [decide_eq_true_eq]; exact hkl'
            obtain ⟨ad, rfl, hcell⟩ := ints_cells (H.out.below HB.out) (by omega)
            have hkx : kk < l.length := by rw [L.out]; exact hkl
            have c1 := hcell kk hkx
            have S1 : Hid (l[kk] = (x : Int) → Setp.low ((x : Int) + 1) l = kk + 1 ∧ U (x + 1) = U x) := fun he => by
              have hK := HK.out
              have := ST1.out x (by omega) (by simp only [hK]; exact he)
              rw [hK] at this; exact this
            have S2 : Hid (l[kk] ≠ (x : Int) → Setp.low ((x : Int) + 1) l = kk ∧ U (x + 1) = U x ++ [(x : Int)]) := fun he => by
              have hK := HK.out
              have := ST2.out x (fun hk => by simp only [hK]; exact he)
              rw [hK] at this; exact this
            clear hcell
            generalize l[kk] = y at *
            by_cases hy : y = (x : Int)
            · have hyb : ((y : Int) == (x : Int)) = true := by rw [beq_iff_eq]; exact hy
              obtain ⟨s1, s2⟩ := S1.out hy
              replace s1 := Lib.hid s1; replace s2 := Lib.hid s2; replace hy := Lib.hid hy
              go_wp2_with fail
              go_roundw
              case rel => exact ⟨x + 1, c', m, kk + 1, A1, rfl, by go_num, by go_num, by omega, by omega, (by rw [Int.natCast_add]; exact s1.out), HB, (by rw [s2.out]; exact HL), (by rw [s2.out]; exact HO)⟩
              case measure => simp [intOf]; omega
            · have hyb : ((y : Int) == (x : Int)) = false := by rw [beq_eq_false_iff_ne]; exact hy
              obtain ⟨s1, s2⟩ := S2.out hy
              replace s1 := Lib.hid s1; replace s2 := Lib.hid s2; replace hy := Lib.hid hy
              go_wp2_with (at_builtin; refine wpList_append_any _ rfl (.tmp 52) (.tmp 54) 25 rfl w.heap.size 3 i0 (.int .i64 0) 1 8 Try.underlying25 hi.out hz0.out hz1.out hz2'.out rfl (by omega) A1 m c' _ rfl (HO.out.alloc (.cells #[.int .i64 (x : Nat)] 3)) (wr.heap.size + 1) _ 1 1 _ rfl (reads_one wr _ _) (one_one rfl) hb1 hb2 (show w.heap.size ≤ (wr.alloc (.cells #[.int .i64 (x : Nat)] 3)).heap.size from Nat.le_trans hgd (by simp)) ?_; intro A6 c6 w6 ho6 hg6 hs6; have hB6 : Below w.heap.size w w6 := below_app (HB.out.alloc hgd (.cells #[.int .i64 (x : Nat)] 3)) hg6 (HO.out.alloc (.cells #[.int .i64 (x : Nat)] 3)) (Nat.le_trans hgd (by simp)); replace ho6 := Lib.hid ho6; replace hB6 := Lib.hid hB6; clear hg6 hs6)
              go_roundw
              case rel => exact ⟨x + 1, c6, m + 1, kk, A6, rfl, rfl, by go_num, by omega, by omega, (by rw [Int.natCast_add]; exact s1.out), hB6, (by rw [s2.out, List.length_append, HL.out]; rfl), (by rw [s2.out, List.map_append]; exact ho6)⟩
              case measure => simp [intOf]; omega
          · have hdk : decide ((kk : Int) < (n : Int)) = false := by rw [decide_eq_false_iff_not]; omega
            have hgk : (n : Int) ≤ (kk : Int) := by omega
            have S2 : Hid (Setp.low ((x : Int) + 1) l = kk ∧ U (x + 1) = U x ++ [(x : Int)]) := by
              have hK := HK.out
              have := ST2.out x (fun hk => by have := L.out; omega)
              rw [hK] at this; exact this
            go_wp2_with (at_builtin; refine wpList_append_any _ rfl (.tmp 52) (.tmp 54) 25 rfl w.heap.size 3 i0 (.int .i64 0) 1 8 Try.underlying25 hi.out hz0.out hz1.out hz2'.out rfl (by omega) A1 m c' _ rfl (HO.out.alloc (.cells #[.int .i64 (x : Nat)] 3)) (wr.heap.size + 1) _ 1 1 _ rfl (reads_one wr _ _) (one_one rfl) hb1 hb2 (show w.heap.size ≤ (wr.alloc (.cells #[.int .i64 (x : Nat)] 3)).heap.size from Nat.le_trans hgd (by simp)) ?_; intro A6 c6 w6 ho6 hg6 hs6; have hB6 : Below w.heap.size w w6 := below_app (HB.out.alloc hgd (.cells #[.int .i64 (x : Nat)] 3)) hg6 (HO.out.alloc (.cells #[.int .i64 (x : Nat)] 3)) (Nat.le_trans hgd (by simp)); replace ho6 := Lib.hid ho6; replace hB6 := Lib.hid hB6; clear hg6 hs6)
            go_roundw
            case rel => exact ⟨x + 1, c6, m + 1, kk, A6, rfl, rfl, by go_num, by omega, by omega, (by rw [Int.natCast_add]; exact S2.out.1), hB6, (by rw [S2.out.2, List.length_append, HL.out]; rfl), (by rw [S2.out.2, List.map_append]; exact ho6)⟩
            case measure => simp [intOf]; omega
        · have hge2 : (b : Int) ≤ x := by omega
          have hxb2 : x = b := by omega
          rw [hxb2] at HL HO
          replace hxb2 := Lib.hid hxb2
          rw [← HL.out] at HO
          have HL2 := Lib.hid HL.out
          go_wp2_with fail
          go_ret2
          exact ⟨A1, c', (show Ending.returned (.tuple #[.slice A1 m c', .int .i64 0]) = _ by rw [HL2.out]), HO.out, HB.out⟩

/-- what both of Rest say -/
theorem rests (b : Int) (A : Option Addr) (n c : Nat) (l : List Int) (hn : n ≤ 20000) : ∃ (r : List Int) (er : Int),
    (∀ W, Reads W W.heap.size 1 A n (l.map I64) → Calls Try.prog 19 #[.int .i64 b, .slice A n c] W (SlErrI W r er)) ∧ (∀ W, Reads W W.heap.size 1 A n (l.map I64) → Calls Try.prog 20 #[.int .i64 b, .slice A n c] W (SlErrI W r er)) ∧ r.length ≤ 20000 ∧
    ((er = 13 ∧ r = []) ∨ (er = 0 ∧ ∃ m : Nat, b = (m : Int) ∧ m ≤ 20000 ∧ Setp.may l = true ∧ (∀ x ∈ l, x < (m : Int)) ∧ r = Setp.up l m)) := by
  cases hr : restB b l
  · exact ⟨[], 13, fun W h => rest_bad b A n c l W h (by omega) hr, fun W h => refRest_bad b A n c l W h (by omega) hr, by simp, .inl ⟨rfl, rfl⟩⟩
  · unfold restB at hr
    simp only [Bool.and_eq_true, decide_eq_true_eq, List.all_eq_true] at hr
    obtain ⟨⟨⟨h1, h2⟩, h3⟩, h4⟩ := hr
    obtain ⟨m, rfl⟩ : ∃ m : Nat, b = (m : Int) := ⟨b.toNat, by omega⟩
    exact ⟨Setp.up l m, 0, fun W h => rest_in m A n c l W h (by omega) h3 h4, fun W h => refRest_in m A n c l W h (by omega) (by omega) h3 h4, Nat.le_trans (Setp.up_len l m) (by omega), .inr ⟨rfl, m, rfl, by omega, h3, h4, rfl⟩⟩

set_option maxRecDepth 100000 in
set_option maxHeartbeats 1000000 in
theorem setsRest_walk (b : Int) (A : Option Addr) (n c : Nat) (l : List Int) (w : World) (_hb : (Lit.int .i64 b).wf = true) (_hnc : n ≤ c) (_m : c ≤ maxLen) (h0 : Reads w w.heap.size 1 A n (l.map I64) ∧ ∀ x ∈ l, (Lit.int .i64 x).wf = true) :
    Calls Try.prog 5 #[.int .i64 b, .slice A n c] w fun e w' => e = .returned (.bool true) ∧ Below w.heap.size w w' := by
  have h := h0.1
  have hl : l.length = n := by have := h.1; simpa using this
  have H := Lib.hid (fun W (hW : Below w.heap.size w W) => (h.below hW).more hW.size)
  have L := Lib.hid hl
  clear h0 h _hb _hnc _m
  by_cases hn : 1000 < n
  · have hn' : (1000 : Int) < n := by omega
    clear hl
    go_enter Try.func5, Try.ntmps5
    go_wp2_with fail
    refine (alive_any _).mono ?_; rintro e w1 ⟨rfl, hB1⟩
    replace hB1 := Lib.hid hB1
    go_wp2_with fail
    go_ret
    exact ⟨rfl, hB1.out⟩
  have hn' : (n : Int) ≤ 1000 := by omega
  obtain ⟨r, er, P1, P2, hrl, hcase⟩ := rests b A n c l (by omega)
  unfold SlErrI at P1 P2
  have HC := Lib.hid hcase
  replace P1 := Lib.hid P1; replace P2 := Lib.hid P2
  have hrl2 : Hid (r.length < 4294967296) := by unfold Hid; omega
  clear hcase hl
  go_enter Try.func5, Try.ntmps5
  go_wp2_with fail
  refine (alive_any _).mono ?_; rintro e w1 ⟨rfl, hB1⟩
  replace hB1 := Lib.hid hB1
  go_wp2_with fail
  refine (P1.out _ (H.out _ hB1.out)).mono ?_; rintro e w2 ⟨A2, c2, rfl, ho2, hB2⟩
  have HB2 := Lib.hid (below_thenI hB1.out hB2)
  replace ho2 := Lib.hid ho2
  clear hB2
  go_wp2_with fail
  refine (P2.out _ (H.out _ HB2.out)).mono ?_; rintro e w3 ⟨A3, c3, rfl, ho3, hB3⟩
  have HB3 := Lib.hid (below_thenI HB2.out hB3)
  have ho23 := Lib.hid (own_belowI ho2.out hB3)
  have SM := Lib.hid (sameI_any A2 A3 r.length c2 c3 w3.heap.size r w3 (Reads.of_own ho23.out) (Reads.of_own ho3) hrl2.out)
  clear hB3 ho2 ho3
  go_wp2_with fail
  refine SM.out.mono ?_; rintro e w4 ⟨rfl, hD⟩
  have HB4 := Lib.hid (below_thenI HB3.out (hD.below _))
  have hr4 := Lib.hid ((hD.reads (Reads.of_own ho23.out)).more (hD.below w3.heap.size).size)
  clear hD
  by_cases hz : er = 0
  · obtain ⟨m, hbm, hm2, hmay, hlt, hru⟩ : ∃ m : Nat, b = (m : Int) ∧ m ≤ 20000 ∧ Setp.may l = true ∧ (∀ x ∈ l, x < (m : Int)) ∧ r = Setp.up l m := by
      rcases HC.out with ⟨h1, _⟩ | ⟨_, h2⟩
      · omega
      · exact h2
    have R2 := Lib.hid (rest_in m A2 r.length c2 r w4 hr4.out hm2 (by rw [hru]; exact Setp.may_up l m) (fun x hx => by rw [hru] at hx; exact ((Setp.mem_up l x m).1 hx).2.1))
    rw [show Setp.up r m = l by rw [hru]; exact Setp.up_up hmay hlt] at R2
    unfold SlErrI at R2
    rw [L.out] at R2
    subst hz
    subst hbm
    replace hru := Lib.hid hru; replace hlt := Lib.hid hlt; replace hmay := Lib.hid hmay
    go_wp2_with fail
    refine R2.out.mono ?_; rintro e w5 ⟨A5, c5, rfl, ho5, hB5⟩
    have HB5 := Lib.hid (below_thenI HB4.out hB5)
    have SM2 := Lib.hid (sameI_any A5 A n c5 c w5.heap.size l w5 (Reads.of_own ho5) (H.out _ HB5.out) (by omega))
    clear hB5 ho5
    go_wp2_with fail
    refine SM2.out.mono ?_; rintro e w6 ⟨rfl, hD6⟩
    have HB6 := Lib.hid (below_thenI HB5.out (hD6.below _))
    clear hD6
    go_wp2_with fail
    go_ret
    exact ⟨rfl, HB6.out⟩
  · have hz2 : (er != 0) = true := by rw [bne_iff_ne]; exact hz
    have hz3 : (er == 0) = false := by rw [beq_eq_false_iff_ne]; exact hz
    go_wp2_with fail
    go_ret
    exact ⟨rfl, HB4.out⟩
end Go.Proofs.Ytpgnaahfkcgflaa
