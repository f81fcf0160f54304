/-
  The document's Any, walked.
-/
import Derived.Test.YtpgnaahfkcgflaaSetput
namespace Go.Proofs.Ytpgnaahfkcgflaa
set_option linter.unusedSimpArgs false
set_option linter.unusedVariables false
open Go.RowKit

/-- few short lists -/
def Small (xss : List (List Int)) : Prop := xss.length ≤ 1000 ∧ ∀ xs ∈ xss, xs.length ≤ 1000
theorem Small.short {xss : List (List Int)} (h : Small xss) : Short xss := fun xs hx => by have := h.2 xs hx; omega
theorem allSets_mem {xss : List (List Int)} (h : allSets xss = true) : ∀ l ∈ xss, Setp.may l = true := List.all_eq_true.1 h

set_option maxRecDepth 100000 in
set_option maxHeartbeats 8000000 in
theorem refAny_in (A : Option Addr) (n c : Nat) (xss : List (List Int)) (w : World) (h : RowsI w w.heap.size A n xss) (hs : Small xss) (ha : allSets xss = true) :
    Calls Try.prog 24 #[.slice A n c] w (SlErrI w (Setp.anyL xss) 0) := by
  have hl := h.len
  have hn : n ≤ 1000 := by have := hs.1; omega
  have AL := Lib.hid (fun W hW => refAll_any A n c w.heap.size xss W hW (by omega) hs.short)
  rw [ha] at AL
  have HS := Lib.hid (fun (W : World) (hW : Below w.heap.size w W) (k : Nat) (hk : k < n) => (h.below hW).row hk)
  have H := Lib.hid h
  have L := Lib.hid hl
  have SM := Lib.hid (fun k xs (hx : xss[k]? = some xs) => (⟨hs.2 xs (List.mem_of_getElem? hx), all_at ha hx⟩ : xs.length ≤ 1000 ∧ Setp.may xs = true))
  have EQ := Lib.hid (fun r hr hm => Setp.anyL_eq (xss := xss) (r := r) (allSets_mem ha) hr hm)
  obtain ⟨G, hG⟩ : ∃ G, Hid (Setp.anyL xss = G) := ⟨_, rfl⟩
  rw [hG.out] at EQ
  rw [hG.out]
  clear h hl hs ha
  go_enter Try.func24, Try.ntmps24
  go_wp2_with fail
  refine (AL.out _ H.out).mono ?_; rintro e w1 ⟨rfl, hD1⟩
  replace hD1 := Lib.hid (hD1.below w.heap.size)
  go_wp2_with fail
  clear AL
  go_loopw [4, 5] (fun v4 v5 wr => ∃ (i c' m : Nat) (A1 : Option Addr) (U : List Int), v4 = .slice A1 m c' ∧ v5 = .int .i64 i ∧ i ≤ n ∧ m ≤ i * 1000 ∧ Hid (Below w.heap.size w wr) ∧ Hid (U.length = m) ∧ Hid (wr.ownsRow w.heap.size 3 1 (.slice A1 m c') m (U.map I64)) ∧ Hid (Setp.may U = true) ∧ Hid (∀ z, z ∈ U ↔ ∃ l ∈ xss.take i, z ∈ l)) (fun _ v5 _ => n - (intOf v5).toNat)
  case atStart => exact ⟨0, 0, 0, none, [], rfl, rfl, by omega, by omega, hD1, rfl, World.ownsRow_nil _ _ _ 1, rfl, fun z => by simp⟩
  case round =>
    clear hD1
    obtain ⟨i, c', m, A1, U, rfl, rfl, hin, hmi, HB, HL, HO, HM, HZ⟩ := hrel
    by_cases hlt : i < n
    · have hlt' : (i : Int) < n := by omega
      have CI : Hid (∃ xs : List Int, ∃ (Ai : Option Addr) (ni ci : Nat), xss[i]? = some xs ∧ ∃ ad, A = some ad ∧ ∀ W, Below w.heap.size w W → W.cell? (ad.add i) = some (.slice Ai ni ci) ∧ Reads W w.heap.size 1 Ai ni (xs.map I64)) := by
        obtain ⟨ad, xs, Ai, ni, ci, hA, hbl, hx, c1, h1, h2, h3⟩ := HS.out wr HB.out i hlt
        refine ⟨xs, Ai, ni, ci, hx, ad, hA, fun W hW => ?_⟩
        obtain ⟨ad', xs', Ai', ni', ci', hA', hbl', hx', c1', h1', h2', h3'⟩ := HS.out w (Below.refl _ _) i hlt
        rw [hA] at hA'
        injection hA' with hA'
        subst hA'
        have e1 := (HB.out.cell (p := ad.add i) (by rw [block_of_add]; exact hbl)).symm.trans c1
        rw [c1'] at e1
        injection e1 with e1
        injection e1 with e1 e2 e3
        subst e1 e2 e3
        rw [hx] at hx'
        injection hx' with hx'
        subst hx'
        exact ⟨(hW.cell (p := ad.add i) (by rw [block_of_add]; exact hbl)).trans c1', h3'.below hW⟩
      obtain ⟨xs, Ai, ni, ci, hx, ad, hA, CW⟩ := CI.out
      subst hA
      obtain ⟨hxl, hxm⟩ := SM.out i xs hx
      have hnx : xs.length = ni := by have := (CW wr HB.out).2.1; simpa using this
      have TK : Hid (∀ z, (∃ l ∈ xss.take (i + 1), z ∈ l) ↔ (∃ l ∈ xss.take i, z ∈ l) ∨ z ∈ xs) := fun z => by
        obtain ⟨hi, e⟩ := List.getElem?_eq_some_iff.1 hx
        rw [List.take_succ_eq_append_getElem hi, e]
        constructor
        · rintro ⟨l, hl, hz⟩
          rcases List.mem_append.1 hl with h1 | h1
          · exact .inl ⟨l, h1, hz⟩
          · rw [List.mem_singleton.1 h1] at hz; exact .inr hz
        · rintro (⟨l, hl, hz⟩ | hz)
          · exact ⟨l, List.mem_append_left _ hl, hz⟩
          · exact ⟨xs, List.mem_append_right _ (List.mem_singleton.2 rfl), hz⟩
      have POS : Hid (∀ z ∈ xs, 0 ≤ z) := ((Setp.may_iff xs).1 hxm).1
      have hni : ni ≤ 1000 := by omega
      replace CW := Lib.hid CW; replace hx := Lib.hid hx; replace hnx := Lib.hid hnx
      clear hxm CI hxl
      go_wp2_with fail
      go_loopw [4, 6] (fun v4 v6 wr => ∃ (k c' m : Nat) (A1 : Option Addr) (U : List Int), v4 = .slice A1 m c' ∧ v6 = .int .i64 k ∧ k ≤ ni ∧ m ≤ i * 1000 + k ∧ Hid (Below w.heap.size w wr) ∧ Hid (U.length = m) ∧ Hid (wr.ownsRow w.heap.size 3 1 (.slice A1 m c') m (U.map I64)) ∧ Hid (Setp.may U = true) ∧ Hid (∀ z, z ∈ U ↔ (∃ l ∈ xss.take i, z ∈ l) ∨ z ∈ xs.take k)) (fun _ v6 _ => ni - (intOf v6).toNat)
      case atStart => exact ⟨0, c', m, A1, U, rfl, rfl, by omega, by omega, HB, HL, HO, HM, fun z => by rw [HZ.out z]; simp⟩
      case round =>
        clear HB HL HO HM HZ hmi
        obtain ⟨k, c', m, A1, U, rfl, rfl, hkn, hmk, HB, HL, HO, HM, HZ⟩ := hrel
        obtain ⟨cr, hrx⟩ := CW.out wr HB.out
        by_cases hkl : k < ni
        · have hkl' : (k : Int) < (ni : Int) := by omega
          obtain ⟨ax, hAx, hcell⟩ := ints_cells hrx (by omega)
          subst hAx
          have hkx : k < xs.length := by rw [hnx.out]; exact hkl
          have cx := hcell k hkx
          have TKx : Hid (xs.take (k + 1) = xs.take k ++ [xs[k]]) := List.take_succ_eq_append_getElem hkx
          have hp0 := POS.out _ (List.getElem_mem hkx)
          replace hrx := Lib.hid hrx
          clear hcell
          generalize xs[k] = x at *
          have PU := Lib.hid (put_any A1 m c' wr.heap.size U x wr (Reads.of_own HO.out) (Nat.le_refl _) (by omega))
          have HM2 : Hid (Setp.may (Setp.ins U x) = true) := Setp.may_merge HM.out (by rw [Setp.may_iff]; exact ⟨fun y hy => by rw [List.mem_singleton.1 hy]; exact hp0, List.pairwise_singleton _ _⟩)
          have HZ2 : Hid (∀ z, z ∈ Setp.ins U x ↔ (∃ l ∈ xss.take i, z ∈ l) ∨ z ∈ xs.take (k + 1)) := fun z => by
            unfold Setp.ins
            rw [Setp.mem_merge, HZ.out z, TKx.out, List.mem_append, or_assoc]
          have HL2 : Hid ((Setp.ins U x).length ≤ m + 1) := by have := Setp.len_merge U [x]; have := HL.out; unfold Setp.ins Hid; simp at *; omega
          unfold SlRet at PU
          generalize Setp.ins U x = U2 at *
          go_wp2_with fail
          refine PU.out.mono ?_; rintro e w2 ⟨A2, c2, rfl, hf⟩
          have HB2 := Lib.hid (below_thenI HB.out hf.below)
          have HO2 := Lib.hid (own_base hf.1 HB.out.size)
          have hm2 : U2.length ≤ m + 1 := HL2.out
          clear hf PU cx cr
          go_wp2_with fail
          go_roundw
          case rel => exact ⟨k + 1, c2, U2.length, A2, U2, rfl, by go_num, by omega, by omega, HB2, rfl, HO2, HM2, HZ2⟩
          case measure => simp [intOf]; omega
        · have hge : (ni : Int) ≤ k := by omega
          have hk2 : k = ni := by omega
          have HZ2 : Hid (∀ z, z ∈ U ↔ ∃ l ∈ xss.take (i + 1), z ∈ l) := fun z => by
            rw [HZ.out z, TK.out z, show xs.take k = xs from List.take_of_length_le (by rw [hnx.out]; omega)]
          replace hk2 := Lib.hid hk2
          clear hrx
          go_wp2_with fail
          go_roundw
          case rel => exact ⟨i + 1, c', m, A1, U, rfl, by go_num, by omega, by omega, HB, HL, HO, HM, HZ2⟩
          case measure => simp [intOf]; omega
    · have hge : (n : Int) ≤ i := by omega
      have hU : Hid (U = G) := EQ.out U HM.out (fun z => by rw [HZ.out z, List.take_of_length_le (by rw [L.out]; omega)])
      have HLG : Hid (G.length = m) := by rw [← hU.out]; exact HL.out
      go_wp2_with fail
      go_ret2
      exact ⟨A1, c', (show Ending.returned (.tuple #[.slice A1 m c', .int .i64 0]) = _ by rw [HLG.out]), (by rw [HLG.out, ← hU.out]; exact HO.out), HB.out⟩
set_option maxRecDepth 100000 in
theorem refAny_bad (A : Option Addr) (n c : Nat) (xss : List (List Int)) (w : World) (h : RowsI w w.heap.size A n xss) (hn : n < 4294967296) (hs : Short xss) (ha : allSets xss = false) :
    Calls Try.prog 24 #[.slice A n c] w (SlErrI w [] 13) := by
  have AL := Lib.hid (refAll_any A n c w.heap.size xss w h hn hs)
  rw [ha] at AL
  clear h hs ha
  go_enter Try.func24, Try.ntmps24
  go_wp2_with fail
  refine AL.out.mono ?_; rintro e w1 ⟨rfl, hD1⟩
  replace hD1 := Lib.hid (hD1.below w.heap.size)
  go_wp2_with fail
  go_ret2
  exact slErrI_nil w _ hD1.out 13
end Go.Proofs.Ytpgnaahfkcgflaa
