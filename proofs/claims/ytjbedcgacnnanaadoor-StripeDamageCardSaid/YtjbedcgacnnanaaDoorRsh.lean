/-
  The first good parts: walked.
-/
import Derived.Test.YtjbedcgacnnanaaDoorRsg
namespace Go.Proofs.YtjbedcgacnnanaaDoor
set_option linter.unusedSimpArgs false
set_option linter.unusedVariables false
open Go.RowKit

namespace Rsp
/-- the places of good parts, below i -/
def gd (g : List Bool) (i : Nat) : List Nat := (List.range i).filter fun t => g.getD t false
/-- the first kk of them -/
def fst (kk : Nat) (g : List Bool) (i : Nat) : List Nat := (gd g i).take kk
def rowsAt (l : List (List UInt8)) (P : List Nat) : List (List UInt8) := P.map fun t => l.getD t []
theorem gd_yes {g : List Bool} {i : Nat} (h : g.getD i false = true) : gd g (i + 1) = gd g i ++ [i] := by
  unfold gd; rw [List.range_succ, List.filter_append, List.filter_cons_of_pos (p := fun t => g.getD t false) h]; rfl
theorem gd_no {g : List Bool} {i : Nat} (h : g.getD i false = false) : gd g (i + 1) = gd g i := by
  unfold gd; rw [List.range_succ, List.filter_append, List.filter_cons_of_neg (p := fun t => g.getD t false) (by rw [h]; decide)]; simp
theorem fst_no {g : List Bool} {kk i : Nat} (h : g.getD i false = false) : fst kk g (i + 1) = fst kk g i := by unfold fst; rw [gd_no h]
theorem fst_full {g : List Bool} {kk i : Nat} (h : ¬ (fst kk g i).length < kk) : fst kk g (i + 1) = fst kk g i := by
  unfold fst at h ⊢
  rw [List.length_take] at h
  cases hg : g.getD i false with
  | false => rw [gd_no hg]
  | true => rw [gd_yes hg, List.take_append_of_le_length (by omega)]
theorem fst_yes {g : List Bool} {kk i : Nat} (h : g.getD i false = true) (hk : (fst kk g i).length < kk) : fst kk g (i + 1) = fst kk g i ++ [i] := by
  unfold fst at hk ⊢
  rw [List.length_take] at hk
  rw [gd_yes h, List.take_of_length_le (by rw [List.length_append]; simp; omega), List.take_of_length_le (by omega)]
theorem gd_lt {g : List Bool} {i x : Nat} (h : x ∈ gd g i) : x < i := by
  unfold gd at h; exact List.mem_range.1 (List.mem_filter.1 h).1
theorem gd_good {g : List Bool} {i x : Nat} (h : x ∈ gd g i) : g.getD x false = true := by
  unfold gd at h; exact (List.mem_filter.1 h).2
theorem gd_nodup (g : List Bool) (i : Nat) : (gd g i).Nodup := List.nodup_range.filter _
theorem gd_len (g : List Bool) (i : Nat) : (gd g i).length ≤ i := by
  have := List.length_filter_le (fun t => g.getD t false) (List.range i)
  rw [List.length_range] at this; exact this
theorem fst_len (kk : Nat) (g : List Bool) (i : Nat) : (fst kk g i).length = min kk (gd g i).length := by unfold fst; rw [List.length_take]
theorem fst_all {kk : Nat} {g : List Bool} {i : Nat} (h : i ≤ kk) : fst kk g i = gd g i := by
  unfold fst; exact List.take_of_length_le (Nat.le_trans (gd_len _ _) h)
theorem rowsAt_len (l : List (List UInt8)) (P : List Nat) : (rowsAt l P).length = P.length := by simp [rowsAt]
end Rsp
/-- an int's cell, of a natural number -/
def NV (t : Nat) : Value := .int .i64 (t : Int)
theorem info_int : (Tryd.prog.info? 3).map (fun i => (i.zero, i.size, i.bytes)) = some (some (.int .i64 0), 1, 8) := by kernel_rfl
/-- an owned row is left by what happens to a row of another type -/
theorem own_apart {W W4 : World} {base base' n n' c c' size size' : Nat} {A A' : Option Addr} {E E' : TypeId} {xs ys : List Value} (h : W.ownsRow base E size (.slice A n c) n xs) (ho : W.ownsRow base' E' size' (.slice A' n' c') n' ys) (hE : E ≠ E') (hg : W.grownBy W4 (A'.map (·.block))) : W4.ownsRow base E size (.slice A n c) n xs := by
  refine ownsRow_block h fun a ha => ?_
  obtain ⟨cs, fr, hh⟩ := own_row h a.block (by rw [ha]; rfl)
  refine hg.block _ (lt_of_heap hh) fun e => ?_
  obtain ⟨cs', fr', hh'⟩ := own_row ho a.block e.symm
  rw [hh] at hh'
  injection hh' with hh'
  injection hh' with _ ht
  exact hE ht
theorem Lists.apart {W W4 : World} {b0 base n c base' n' c' size' : Nat} {A A' : Option Addr} {E' : TypeId} {xss : List (List UInt8)} {ys : List Value} (h : Lists W b0 base A n c xss) (ho : W.ownsRow base' E' size' (.slice A' n' c') n' ys) (hE : 27 ≠ E') (hE8 : 5 ≠ E') (hb' : base ≤ base') (hg : W.grownBy W4 (A'.map (·.block))) : Lists W4 b0 base A n c xss := by
  obtain ⟨⟨vs, h1, h2, h3⟩, hb, h0⟩ := h
  refine ⟨⟨vs, own_apart h1 ho hE hg, h2, fun i xs hi => ?_⟩, Nat.le_trans hb hg.size, h0⟩
  obtain ⟨Ai, ci, a1, a2, a3, a4⟩ := h3 i xs hi
  refine ⟨Ai, ci, a1, a2, a3, ?_⟩
  rcases a4 with a4 | a4
  · refine .inl (a4.keep fun p hp => World.cell?_of_block (hg.block p.block (by omega) fun e => ?_))
    obtain ⟨cs', fr', hh'⟩ := own_row ho p.block e.symm
    have := ho.lt p.block (by rw [ownBlock_slice]; exact e.symm)
    omega
  · exact .inr (own_apart a4 ho hE8 hg)

/-- places and lists of the call's own are handed back -/
def FstRet (w : World) (P : List Nat) (l : List (List UInt8)) (e : Ending) (w' : World) : Prop := ∃ A c A2 c2, e = .returned (.tuple #[.slice A P.length c, .slice A2 P.length c2]) ∧ w'.ownsRow w.heap.size 3 1 (.slice A P.length c) P.length (P.map NV) ∧ Lists w' w.heap.size w.heap.size A2 P.length c2 l ∧ Below w.heap.size w w'
theorem flag_at {w : World} {B n k : Nat} {A : Option Addr} {gs : List Bool} (h : Reads w B 1 A n (gs.map Value.bool)) (hk : k < n) : ∃ ad b, A = some ad ∧ gs.getD k false = b ∧ w.cell? (ad.add k) = some (.bool b) := by
  obtain ⟨ad, u, hA, _, hx, hc⟩ := h.at_ hk
  obtain ⟨b, hb1, rfl⟩ := get_map Value.bool gs k u hx
  exact ⟨ad, b, hA, by rw [List.getD_eq_getElem?_getD, hb1]; rfl, hc⟩
/-- what is known of parts and flags, wherever it is -/
structure PartsIn (w W : World) (A Ag : Option Addr) (n : Nat) (xss : List (List UInt8)) (gs : List Bool) : Prop where
  row : ∀ j, j < n → ∃ ad b Aj L cj, A = some ad ∧ xss.getD j [] = b ∧ b.length = L ∧ W.cell? (ad.add j) = some (.slice Aj L cj) ∧ ∀ W', Below w.heap.size w W' → RowOK W' w.heap.size w.heap.size Aj cj b
  flag : ∀ j, j < n → ∃ ad b, Ag = some ad ∧ gs.getD j false = b ∧ W.cell? (ad.add j) = some (.bool b)
theorem parts_in {w : World} {n : Nat} {A Ag : Option Addr} {xss : List (List UInt8)} {gs : List Bool} (hx : Rows8 w w.heap.size A n xss) (hg : Reads w w.heap.size 1 Ag n (gs.map Value.bool)) (W : World) (hB : Below w.heap.size w W) : PartsIn w W A Ag n xss gs := by
  refine ⟨fun j hj => ?_, fun j hj => flag_at (hg.below hB) hj⟩
  obtain ⟨ad, b, Aj, cj, hA, hb, hc, h1, h2, hr⟩ := hx.rowr hj
  exact ⟨ad, b, Aj, _, cj, hA, by rw [List.getD_eq_getElem?_getD, hb]; rfl, rfl, (hB.cell (p := ad.add j) (lt_of_cell hc)).trans hc, fun W' hW => ⟨h1, h2, .inl (hr.below hW)⟩⟩

set_option maxRecDepth 100000 in
set_option maxHeartbeats 4000000 in
theorem first_any (kk : Nat) (A Ag : Option Addr) (n c cg : Nat) (xss : List (List UInt8)) (gs : List Bool) (w : World) (hn : n ≤ 100000) (hk : kk ≤ 100000) (hx : Rows8 w w.heap.size A n xss) (hg : Reads w w.heap.size 1 Ag n (gs.map Value.bool)) :
    Calls Tryd.prog 64 #[.int .i64 kk, .slice A n c, .slice Ag n cg] w (FstRet w (Rsp.fst kk gs n) (Rsp.rowsAt xss (Rsp.fst kk gs n))) := by
  have IN := Lib.hid (fun W hB => parts_in hx hg W hB)
  obtain ⟨i1, hi_, hy0, hy1, hy2⟩ := info_parts info_row8
  replace hi_ := Lib.hid hi_; replace hy0 := Lib.hid hy0; replace hy1 := Lib.hid hy1; replace hy2 := Lib.hid hy2
  obtain ⟨i2, hj, hx0, hx1, hx2⟩ := info_parts info_int
  replace hj := Lib.hid hj; replace hx0 := Lib.hid hx0; replace hx1 := Lib.hid hx1; replace hx2 := Lib.hid hx2
  have NO := Lib.hid (fun i h => Rsp.fst_no (g := gs) (kk := kk) (i := i) h)
  have FU := Lib.hid (fun i h => Rsp.fst_full (g := gs) (kk := kk) (i := i) h)
  have YES := Lib.hid (fun i h h2 => Rsp.fst_yes (g := gs) (kk := kk) (i := i) h h2)
  clear hx hg
  go_enter Tryd.func64, Tryd.ntmps64
  go_wp2_with fail
  go_loopw [12, 6, 7] (fun v12 v6 v7 wr => ∃ (i L c6 c7 : Nat) (A6 A7 : Option Addr), v12 = .int .i64 i ∧ v6 = .slice A6 L c6 ∧ v7 = .slice A7 L c7 ∧ i ≤ n ∧ L ≤ i ∧ Hid ((Rsp.fst kk gs i).length = L) ∧ Hid (Below w.heap.size w wr) ∧ Hid (wr.ownsRow w.heap.size 3 1 (.slice A6 L c6) L ((Rsp.fst kk gs i).map NV)) ∧ Hid (Lists wr w.heap.size w.heap.size A7 L c7 (Rsp.rowsAt xss (Rsp.fst kk gs i)))) (fun v12 _ _ _ => n - (intOf v12).toNat)
  case atStart => exact ⟨0, 0, 0, 0, none, none, rfl, rfl, rfl, by omega, by omega, by show (Rsp.fst kk gs 0).length = 0; simp [Rsp.fst, Rsp.gd], Below.refl _ _, by show w.ownsRow _ _ _ _ _ _; simp only [Rsp.fst, Rsp.gd, List.range_zero, List.filter_nil, List.take_nil, List.map_nil]; exact World.ownsRow_nil _ _ _ 1, by show Lists _ _ _ _ _ _ _; simp only [Rsp.rowsAt, Rsp.fst, Rsp.gd, List.range_zero, List.filter_nil, List.take_nil, List.map_nil]; exact Lists.nil _ _ _ (Nat.le_refl _) (Nat.le_refl _)⟩
  case round =>
    obtain ⟨i, L, c6, c7, A6, A7, rfl, rfl, rfl, hin, hLi, HLl, HB, HO, HL⟩ := hrel
    by_cases hlt : i < n
    · have hlt' : (i : Int) < (n : Int) := by omega
      obtain ⟨ad, b, Aj, Lj, cj, hA, hb, hbl, ej, hrow⟩ := (IN.out wr HB.out).row i hlt
      obtain ⟨ag, f, hAg, hf, eg⟩ := (IN.out wr HB.out).flag i hlt
      subst hA
      subst hAg
      replace hb := Lib.hid hb
      have hln := Lib.hid hbl; clear hbl
      replace hrow := Lib.hid hrow
      cases f with
      | false =>
        have hs := NO.out i hf
        rw [← hs] at HO HL HLl
        replace hs := Lib.hid hs
        replace hf := Lib.hid hf
        go_wp2_with fail
        go_roundw
        case rel => exact ⟨i + 1, L, c6, c7, A6, A7, by go_num, rfl, rfl, by omega, by omega, HLl, HB, HO, HL⟩
        case measure => simp [intOf]; omega
      | true =>
        by_cases hlk : L < kk
        · have hlk' : (L : Int) < (kk : Int) := by omega
          have hs := Lib.hid (YES.out i hf (by rw [HLl.out]; exact hlk))
          replace hf := Lib.hid hf
          have hm1 : L + 1 ≤ maxLen := by unfold maxLen; omega
          have hm2 : (L + 1) * 8 ≤ 140737488355328 := by omega
          have hc1 : L + 1 ≤ maxLen := by unfold maxLen; omega
          have hc2 : (L + 1) * 24 ≤ 140737488355328 := by omega
          go_wp2_with (first | (at_builtin; refine wpList_append_any _ rfl (.tmp 27) (.tmp 29) 32 rfl w.heap.size 3 i2 (.int .i64 0) 1 8 Tryd.underlying32 hj.out hx0.out hx1.out hx2.out rfl (by omega) A6 L c6 _ rfl (HO.out.alloc (.cells #[.int .i64 (i : Int)] 3)) (wr.heap.size + 1) _ 1 1 _ rfl (reads_one wr _ _) (one_one rfl) hm1 hm2 (show w.heap.size ≤ (wr.alloc (.cells #[.int .i64 (i : Int)] 3)).heap.size from Nat.le_trans HB.out.size (by simp)) ?_; intro A2 c2 w3 ho3 hgq _hsq; have hB3 : Below w.heap.size w w3 := below_app (HB.out.alloc HB.out.size (.cells #[.int .i64 (i : Int)] 3)) hgq (HO.out.alloc (.cells #[.int .i64 (i : Int)] 3)) (show w.heap.size ≤ (wr.alloc (.cells #[.int .i64 (i : Int)] 3)).heap.size from Nat.le_trans HB.out.size (by simp)); have hL3 := Lists.apart (HL.out.below ((Below.refl _ wr).alloc (Nat.le_refl _) _)) (HO.out.alloc _) (by decide) (by decide) (Nat.le_refl _) hgq; replace hL3 := Lib.hid hL3; have hLa := hL3.out.below ((Below.refl _ w3).alloc (Nat.le_refl _) (.cells #[.slice Aj Lj cj] 27)); have hRa := RowOK.below (hrow.out w3 hB3) hL3.out.b0s hL3.out.bs ((Below.refl _ w3).alloc (Nat.le_refl _) (.cells #[.slice Aj Lj cj] 27)); obtain ⟨⟨vs, hv1, hv2, hv3⟩, hvb, hv0⟩ := hLa; replace hv1 := Lib.hid hv1; replace hv2 := Lib.hid hv2; replace hv3 := Lib.hid hv3; replace hvb := Lib.hid hvb; replace hv0 := Lib.hid hv0; replace hRa := Lib.hid hRa; clear hL3 HL; replace ho3 := Lib.hid ho3; replace hB3 := Lib.hid hB3; clear hgq _hsq) | (at_builtin; refine wpList_append_any _ rfl (.tmp 31) (.tmp 33) 55 rfl w.heap.size 27 i1 (.slice none 0 0) 1 24 Tryd.underlying55 hi_.out hy0.out hy1.out hy2.out rfl (by omega) A7 L c7 _ rfl hv1.out (w3.heap.size + 1) _ 1 1 _ rfl (reads_one w3 _ _) (one_one rfl) hc1 hc2 hvb.out ?_; intro A3 c3 w4 ho4 hgq _hsq; have hB4 : Below w.heap.size w w4 := below_app (hB3.out.alloc hB3.out.size (.cells #[.slice Aj Lj cj] 27)) hgq hv1.out hvb.out; have hP4 := Lists.pushN hln.out hRa.out hv1.out hv2.out hv3.out hv0.out hvb.out ho4 hgq; have hI4 := Lib.hid (own_apart (ho3.out.alloc _) hv1.out (by decide) hgq); replace hB4 := Lib.hid hB4; replace hP4 := Lib.hid hP4; clear hgq _hsq ho4 hv1 hv2 hv3 hvb hv0 hRa))
          go_roundw
          case rel => exact ⟨i + 1, L + 1, c2, c3, A2, A3, by go_num, rfl, rfl, by omega, by omega, by rw [hs.out]; show (_ ++ [i]).length = L + 1; rw [List.length_append, HLl.out]; rfl, hB4, by rw [hs.out, List.map_append]; exact hI4.out, by rw [hs.out]; unfold Rsp.rowsAt; rw [List.map_append]; simp only [List.map_cons, List.map_nil]; rw [hb.out]; exact hP4.out⟩
          case measure => simp [intOf]; omega
        · have hlk' : (kk : Int) ≤ (L : Int) := by omega
          have hs := FU.out i (by rw [HLl.out]; exact hlk)
          rw [← hs] at HO HL HLl
          replace hs := Lib.hid hs
          replace hf := Lib.hid hf
          go_wp2_with fail
          go_roundw
          case rel => exact ⟨i + 1, L, c6, c7, A6, A7, by go_num, rfl, rfl, by omega, by omega, HLl, HB, HO, HL⟩
          case measure => simp [intOf]; omega
    · have hge : (n : Int) ≤ (i : Int) := by omega
      obtain rfl : i = n := by omega
      go_wp2_with fail
      go_ret2
      refine ⟨A6, c6, A7, c7, ?_⟩
      rw [HLl.out]
      exact ⟨rfl, HO.out, HL.out, HB.out⟩
end Go.Proofs.YtjbedcgacnnanaaDoor
