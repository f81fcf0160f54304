/-
  What none of the others has: both walked; the law SetsLess.
-/
import Derived.Test.YtpgnaahfkcgflaaSete
namespace Go.Proofs.Ytpgnaahfkcgflaa
set_option linter.unusedSimpArgs false
set_option linter.unusedVariables false
open Go.RowKit

set_option maxRecDepth 100000 in
set_option maxHeartbeats 8000000 in
theorem less_in (A A' : Option Addr) (n c n0 c0 : Nat) (l0 : List Int) (xss : List (List Int)) (w : World) (h : RowsI w w.heap.size A n xss) (hn : n < 4294967296) (hs : Short xss) (ha : allSets xss = true) (h0 : Reads w w.heap.size 1 A' n0 (l0.map I64)) (hn0b : n0 < 4294967296) (hm0 : Setp.may l0 = true) :
    Calls Try.prog 21 #[.slice A' n0 c0, .slice A n c] w (SlErrI w (l0.filter fun x => !inAny xss x) 0) := by
  have hl := h.len
  have hl0 : l0.length = n0 := by have := h0.1; simpa using this
  obtain ⟨F, hF⟩ : ∃ F : Nat → List Int, F = fun i => (l0.take i).filter (fun x => !inAny xss x) := ⟨_, rfl⟩
  have F0 : Hid (F 0 = []) := by rw [hF]; rfl
  have Fe : Hid (l0.filter (fun x => !inAny xss x) = F n0) := by rw [hF, ← hl0]; simp [Hid]
  have Fs : Hid (∀ i x, l0[i]? = some x → F (i + 1) = F i ++ (if (!inAny xss x) = true then [x] else [])) := fun i x hx => by rw [hF]; exact filter_step l0 _ i x hx
  have UP : Hid (∀ i x y, l0[i]? = some x → l0[i + 1]? = some y → x ≤ y) := fun i x y hx hy => by
    obtain ⟨h1, e1⟩ := List.getElem?_eq_some_iff.1 hx
    obtain ⟨h2, e2⟩ := List.getElem?_eq_some_iff.1 hy
    have := Setp.may_rising hm0 i (i + 1) h2 (by omega)
    omega
  have PO : Hid (∀ x, l0[0]? = some x → 0 ≤ x) := fun x hx => by
    obtain ⟨h1, e1⟩ := List.getElem?_eq_some_iff.1 hx
    have := Setp.may_pos hm0 0 h1
    omega
  have BG := Lib.hid (begin_any A n c xss w h hn hs)
  unfold BegRet at BG
  simp only [ha, if_true, hl] at BG
  have MA := Lib.hid (fun W hW => may_any A' n0 c0 w.heap.size l0 W hW hn0b)
  rw [hm0] at MA
  have HS0 := Lib.hid (fun (W : World) (hW : Below w.heap.size w W) => h0.below hW)
  have CO := Lib.hid (fun p Ap cp gs x W hp hop hW => contains_any p Ap n cp w.heap.size gs xss x W w.heap.size hp hop hW hl ha hs hn)
  have L0 := Lib.hid hl0
  rw [Fe.out]
  obtain ⟨i0, hi, hz0, hz1, hz2⟩ := info_parts info_int
  replace hi := Lib.hid hi; replace hz0 := Lib.hid hz0; replace hz1 := Lib.hid hz1; replace hz2 := Lib.hid hz2
  have hz := (zero_of_info (show (Try.prog.info? 3).map (fun i => (i.zero, i.size)) = some (some (.int .i64 0), 1) by kernel_rfl)).1
  clear h hl h0 hl0 hF ha hs hm0
  go_enter Try.func21, Try.ntmps21
  go_wp2_with fail
  refine BG.out.mono ?_; rintro e w1 ⟨Ap, cp, gs, rfl, hop, hw1, hB1⟩
  replace hB1 := Lib.hid hB1; replace hop := Lib.hid hop; replace hw1 := Lib.hid hw1
  go_wp2_with fail
  refine (MA.out _ (HS0.out _ hB1.out)).mono ?_; rintro e w2 ⟨rfl, rfl⟩
  go_wp2_with fail
  clear BG MA
  go_loopw [8, 25] (fun v8 v25 wr => ∃ (i c' m : Nat) (A1 : Option Addr), v8 = .slice A1 m c' ∧ v25 = .int .i64 i ∧ i ≤ n0 ∧ m ≤ i ∧ Hid (Below w.heap.size w wr) ∧ Hid ((F i).length = m) ∧ Hid (wr.ownsRow w.heap.size 3 1 (.slice A1 m c') m ((F i).map I64)) ∧ Hid (wr.ownsRow w.heap.size 45 1 (.slice Ap n cp) n (gs.map ptr)) ∧ Hid (∀ x, l0[i]? = some x → Wks wr w.heap.size gs xss x)) (fun _ v25 _ => n0 - (intOf v25).toNat)
  case atStart => exact ⟨0, 0, 0, none, rfl, rfl, by omega, by omega, hB1, (by rw [F0.out]; rfl), (by rw [F0.out]; exact World.ownsRow_nil _ _ _ 1), hop, fun x hx => hw1.out.map fun g xs _ hk => hk.mono (PO.out x hx)⟩
  case round =>
    clear hB1 hop hw1
    obtain ⟨i, c', m, A1, rfl, rfl, hin, hmi, HB, HL, HO, HP, HW⟩ := hrel
    by_cases hlt : i < n0
    · have hlt' : (i : Int) < n0 := by omega
      obtain ⟨ad0, hA0, hcell⟩ := ints_cells (HS0.out wr HB.out) (by omega)
      subst hA0
      have hix : i < l0.length := by rw [L0.out]; exact hlt
      have HX : Hid (l0[i]? = some l0[i]) := List.getElem?_eq_getElem hix
      have cx := hcell i hix
      clear hcell
      generalize l0[i] = x at *
      have FS := Lib.hid (Fs.out i x HX.out)
      have UPx : Hid (∀ y, l0[i + 1]? = some y → x ≤ y) := fun y hy => UP.out i x y HX.out hy
      have hgd : w.heap.size ≤ wr.heap.size := HB.out.size
      have hWx := (HW.out x HX.out).map (W' := wr.alloc (.cells #[.int .i64 x] 3)) (z' := x) (fun g ys _ hk => hk.below ((Below.refl _ _).alloc (Nat.le_refl _) (.cells #[.int .i64 x] 3)) hgd)
      have hp1 : Blk (wr.alloc (.cells #[.int .i64 x] 3)) wr.heap.size 3 #[.int .i64 x] := Blk.new _ _ _
      have hO1 := HO.out.alloc (.cells #[.int .i64 x] 3)
      have hP1 := HP.out.alloc (.cells #[.int .i64 x] 3)
      have hB2 := HB.out.alloc hgd (.cells #[.int .i64 x] 3)
      have hpn : w.heap.size ≤ wr.heap.size := hgd
      have CO1 := Lib.hid (CO.out wr.heap.size Ap cp gs x _ hp1 hP1 hWx)
      replace hWx := Lib.hid hWx; replace hp1 := Lib.hid hp1; replace hO1 := Lib.hid hO1; replace hP1 := Lib.hid hP1; replace hB2 := Lib.hid hB2
      clear HW HB HO HP
      go_wp2_with fail
      clear cx
      generalize wr.alloc (.cells #[.int .i64 x] 3) = w3 at *
      generalize wr.heap.size = pb at *
      refine CO1.out.mono ?_; rintro e w4 ⟨rfl, hT, hW4⟩
      have HB4 := Lib.hid (hT.below hB2.out hWx.out.low)
      have HO4 := Lib.hid (hT.own hWx.out hO1.out (by decide))
      have HP4 := Lib.hid (hT.own hWx.out hP1.out (by decide))
      have hp4 := hT.blk hWx.out hp1.out (by decide)
      have cp4 : w4.cell? ⟨pb, 0, none⟩ = some (.int .i64 x) := hp4.cell 0
      replace hW4 := Lib.hid hW4; replace hp4 := Lib.hid hp4
      clear hT CO1 hWx hp1 hO1 hP1 hB2
      cases hb : inAny xss x
      · have Fi : Hid (F (i + 1) = F i ++ [x]) := by rw [Hid, FS.out, hb]; rfl
        clear hb
        have hgd4 : w.heap.size ≤ w4.heap.size := HB4.out.size
        have hb1 : m + 1 ≤ maxLen := by unfold maxLen; omega
        have hb2 : (m + 1) * 8 ≤ 140737488355328 := by omega
        go_wp2_with (at_builtin; refine wpList_append_any _ rfl (.tmp 33) (.tmp 35) 25 rfl w.heap.size 3 i0 (.int .i64 0) 1 8 Try.underlying25 hi.out hz0.out hz1.out hz2.out rfl (by omega) A1 m c' _ rfl (HO4.out.alloc (.cells #[.int .i64 x] 3)) (w4.heap.size + 1) _ 1 1 _ rfl (reads_one w4 _ _) (one_one rfl) hb1 hb2 (show w.heap.size ≤ (w4.alloc (.cells #[.int .i64 x] 3)).heap.size from Nat.le_trans hgd4 (by simp)) ?_; intro A3 c3 w5 ho5 hg5 _hs5; have hown := HO4.out.alloc (.cells #[.int .i64 x] 3); have hB5 : Below w.heap.size w w5 := below_app (HB4.out.alloc hgd4 (.cells #[.int .i64 x] 3)) hg5 hown (show w.heap.size ≤ (w4.alloc (.cells #[.int .i64 x] 3)).heap.size from Nat.le_trans hgd4 (by simp)); have hP5 := own_grown (HP4.out.alloc (.cells #[.int .i64 x] 3)) hown hg5 (by decide); have hW5 := hW4.out.map (W' := w5) (z' := x) (fun g ys _ hk => (hk.below ((Below.refl _ _).alloc (Nat.le_refl _) (.cells #[.int .i64 x] 3)) hgd4).grown hown hg5 (by decide) (Nat.le_refl _) (Nat.le_trans hgd4 (by simp))); replace ho5 := Lib.hid ho5; replace hB5 := Lib.hid hB5; replace hP5 := Lib.hid hP5; replace hW5 := Lib.hid hW5; clear hg5 _hs5 hown)
        go_roundw
        case rel => exact ⟨i + 1, c3, m + 1, A3, rfl, by go_num, by omega, by omega, hB5, (by rw [Fi.out, List.length_append, HL.out]; rfl), (by rw [Fi.out, List.map_append]; exact ho5), hP5, fun y hy => hW5.out.map fun g ys _ hk => hk.mono (UPx.out y hy)⟩
        case measure => simp [intOf]; omega
      · have Fi : Hid (F (i + 1) = F i) := by rw [Hid, FS.out, hb]; simp
        clear hb
        go_wp2_with fail
        go_roundw
        case rel => exact ⟨i + 1, c', m, A1, rfl, by go_num, by omega, by omega, HB4, (by rw [Fi.out]; exact HL), (by rw [Fi.out]; exact HO4.out), HP4, fun y hy => hW4.out.map fun g ys _ hk => hk.mono (UPx.out y hy)⟩
        case measure => simp [intOf]; omega
    · have hge : (n0 : Int) ≤ i := by omega
      have hin2 : i = n0 := by omega
      rw [hin2] at HO HL
      replace hin2 := Lib.hid hin2
      rw [← HL.out] at HO
      have HL2 := Lib.hid HL.out
      go_wp2_with fail
      go_ret2
      exact ⟨A1, c', (show Ending.returned (.tuple #[.slice A1 m c', .int .i64 0]) = _ by rw [HL2.out]), HO.out, HB.out⟩

set_option maxRecDepth 100000 in
theorem less_bad (A A' : Option Addr) (n c n0 c0 : Nat) (l0 : List Int) (xss : List (List Int)) (w : World) (h : RowsI w w.heap.size A n xss) (hn : n < 4294967296) (hs : Short xss) (h0 : Reads w w.heap.size 1 A' n0 (l0.map I64)) (hn0b : n0 < 4294967296) (hb : allSets xss = false ∨ Setp.may l0 = false) :
    Calls Try.prog 21 #[.slice A' n0 c0, .slice A n c] w (SlErrI w [] 13) := by
  have BG := Lib.hid (begin_any A n c xss w h hn hs)
  have MA := Lib.hid (fun W hW => may_any A' n0 c0 w.heap.size l0 W hW hn0b)
  have HS0 := Lib.hid (fun (W : World) (hW : Below w.heap.size w W) => h0.below hW)
  have hl := h.len
  unfold BegRet at BG
  cases ha : allSets xss
  · simp only [ha, Bool.false_eq_true, if_false] at BG
    clear h hs hb hl ha h0
    go_enter Try.func21, Try.ntmps21
    go_wp2_with fail
    refine BG.out.mono ?_; rintro e w1 ⟨rfl, hB1⟩
    replace hB1 := Lib.hid hB1
    go_wp2_with fail
    go_ret2
    exact slErrI_nil w _ hB1.out 13
  · have hm : Setp.may l0 = false := by
      rcases hb with h1 | h1
      · rw [ha] at h1; cases h1
      · exact h1
    simp only [ha, if_true, hl] at BG
    rw [hm] at MA
    clear h hs hb hl ha h0 hm
    go_enter Try.func21, Try.ntmps21
    go_wp2_with fail
    refine BG.out.mono ?_; rintro e w1 ⟨Ap, cp, gs, rfl, hop, hw1, hB1⟩
    replace hB1 := Lib.hid hB1
    clear hop hw1
    go_wp2_with fail
    refine (MA.out _ (HS0.out _ hB1.out)).mono ?_; rintro e w2 ⟨rfl, rfl⟩
    go_wp2_with fail
    go_ret2
    exact slErrI_nil w _ hB1.out 13
set_option maxRecDepth 100000 in
theorem refLess_bad (A A' : Option Addr) (n c n0 c0 : Nat) (l0 : List Int) (xss : List (List Int)) (w : World) (h : RowsI w w.heap.size A n xss) (hn : n < 4294967296) (hs : Short xss) (h0 : Reads w w.heap.size 1 A' n0 (l0.map I64)) (hn0b : n0 < 4294967296) (hb : allSets xss = false ∨ Setp.may l0 = false) :
    Calls Try.prog 22 #[.slice A' n0 c0, .slice A n c] w (SlErrI w [] 13) := by
  have MA := Lib.hid (refMay_any A' n0 c0 w.heap.size l0 w h0 hn0b)
  have AL := Lib.hid (fun W hW => refAll_any A n c w.heap.size xss W hW hn hs)
  have HR := Lib.hid (fun (W : World) (hD : Dr w W) => h.dr hD)
  cases hm : Setp.may l0
  · rw [hm] at MA
    clear h hs hb h0 hm
    go_enter Try.func22, Try.ntmps22
    go_wp2_with fail
    refine MA.out.mono ?_; rintro e w1 ⟨rfl, hD1⟩
    replace hD1 := Lib.hid (hD1.below w.heap.size)
    go_wp2_with fail
    go_ret2
    exact slErrI_nil w _ hD1.out 13
  · have ha : allSets xss = false := by
      rcases hb with h1 | h1
      · exact h1
      · rw [hm] at h1; cases h1
    rw [hm] at MA
    rw [ha] at AL
    clear h hs hb h0 hm ha
    go_enter Try.func22, Try.ntmps22
    go_wp2_with fail
    refine MA.out.mono ?_; rintro e w1 ⟨rfl, hD1⟩
    replace hD1 := Lib.hid hD1
    go_wp2_with fail
    refine (AL.out _ (HR.out _ hD1.out)).mono ?_; rintro e w2 ⟨rfl, hD2⟩
    replace hD2 := Lib.hid ((hD1.out.trans hD2).below w.heap.size)
    go_wp2_with fail
    go_ret2
    exact slErrI_nil w _ hD2.out 13

set_option maxRecDepth 100000 in
set_option maxHeartbeats 8000000 in
theorem refLess_in (A A' : Option Addr) (n c n0 c0 : Nat) (l0 : List Int) (xss : List (List Int)) (w : World) (h : RowsI w w.heap.size A n xss) (hn : n < 4294967296) (hs : Short xss) (ha : allSets xss = true) (h0 : Reads w w.heap.size 1 A' n0 (l0.map I64)) (hn0b : n0 < 4294967296) (hm0 : Setp.may l0 = true) :
    Calls Try.prog 22 #[.slice A' n0 c0, .slice A n c] w (SlErrI w (l0.filter fun x => !inAny xss x) 0) := by
  have hl := h.len
  have hl0 : l0.length = n0 := by have := h0.1; simpa using this
  obtain ⟨F, hF⟩ : ∃ F : Nat → List Int, F = fun i => (l0.take i).filter (fun x => !inAny xss x) := ⟨_, rfl⟩
  have F0 : Hid (F 0 = []) := by rw [hF]; rfl
  have Fe : Hid (l0.filter (fun x => !inAny xss x) = F n0) := by rw [hF, ← hl0]; simp [Hid]
  have Fs : Hid (∀ i x, l0[i]? = some x → F (i + 1) = F i ++ (if (!inAny xss x) = true then [x] else [])) := fun i x hx => by rw [hF]; exact filter_step l0 _ i x hx
  have IA := Lib.hid (fun x t l hx => inAny_take xss x t l hx)
  have IE : Hid (∀ x, inAny (xss.take n) x = inAny xss x) := fun x => by rw [List.take_of_length_le (by omega)]
  have MA := Lib.hid (refMay_any A' n0 c0 w.heap.size l0 w h0 hn0b)
  rw [hm0] at MA
  have AL := Lib.hid (fun W hW => refAll_any A n c w.heap.size xss W hW hn hs)
  rw [ha] at AL
  have HR := Lib.hid (fun (W : World) (hD : Dr w W) => h.dr hD)
  have HS := Lib.hid (fun (W : World) (hW : Below w.heap.size w W) (k : Nat) (hk : k < n) => (h.below hW).row hk)
  have HS0 := Lib.hid (fun (W : World) (hW : Below w.heap.size w W) => h0.below hW)
  have SH := Lib.hid hs
  have L0 := Lib.hid hl0
  rw [Fe.out]
  obtain ⟨i0, hi, hz0, hz1, hz2⟩ := info_parts info_int
  replace hi := Lib.hid hi; replace hz0 := Lib.hid hz0; replace hz1 := Lib.hid hz1; replace hz2 := Lib.hid hz2
  clear h hl h0 hl0 hF ha hs hm0
  go_enter Try.func22, Try.ntmps22
  go_wp2_with fail
  refine MA.out.mono ?_; rintro e w1 ⟨rfl, hD1⟩
  replace hD1 := Lib.hid hD1
  go_wp2_with fail
  refine (AL.out _ (HR.out _ hD1.out)).mono ?_; rintro e w2 ⟨rfl, hD2⟩
  replace hD2 := Lib.hid ((hD1.out.trans hD2).below w.heap.size)
  go_wp2_with fail
  clear AL MA hD1
  go_loopw [6, 7] (fun v6 v7 wr => ∃ (i c' m : Nat) (A1 : Option Addr), v6 = .slice A1 m c' ∧ v7 = .int .i64 i ∧ i ≤ n0 ∧ m ≤ i ∧ Hid (Below w.heap.size w wr) ∧ Hid ((F i).length = m) ∧ Hid (wr.ownsRow w.heap.size 3 1 (.slice A1 m c') m ((F i).map I64))) (fun _ v7 _ => n0 - (intOf v7).toNat)
  case atStart => exact ⟨0, 0, 0, none, rfl, rfl, by omega, by omega, hD2, (by rw [F0.out]; rfl), (by rw [F0.out]; exact World.ownsRow_nil _ _ _ 1)⟩
  case round =>
    clear hD2
    obtain ⟨i, c', m, A1, rfl, rfl, hin, hmi, HB, HL, HO⟩ := hrel
    by_cases hlt : i < n0
    · have hlt' : (i : Int) < n0 := by omega
      obtain ⟨ad0, hA0, hcell⟩ := ints_cells (HS0.out wr HB.out) (by omega)
      subst hA0
      have hix : i < l0.length := by rw [L0.out]; exact hlt
      have HX : Hid (l0[i]? = some l0[i]) := List.getElem?_eq_getElem hix
      have CX : Hid (∀ W, Below w.heap.size w W → W.cell? (ad0.add i) = some (.int .i64 l0[i])) := fun W hW => by
        obtain ⟨ad1, hA1, hcell1⟩ := ints_cells (HS0.out W hW) (by omega)
        injection hA1 with hA1
        subst hA1
        exact hcell1 i hix
      clear hcell
      generalize l0[i] = x at *
      have FS := Lib.hid (Fs.out i x HX.out)
      go_wp2_with fail
      go_loopw [8, 9] (fun v8 v9 wr => ∃ (k : Nat), v8 = .bool (inAny (xss.take k) x) ∧ v9 = .int .i64 k ∧ k ≤ n ∧ Hid (Below w.heap.size w wr) ∧ Hid (wr.ownsRow w.heap.size 3 1 (.slice A1 m c') m ((F i).map I64))) (fun _ v9 _ => n - (intOf v9).toNat)
      case atStart => exact ⟨0, rfl, rfl, by omega, HB, HO⟩
      case round =>
        clear HB HO
        obtain ⟨k, rfl, rfl, hkn, HB, HO⟩ := hrel
        by_cases hkl : k < n
        · have hkl' : (k : Int) < n := by omega
          obtain ⟨ad', xs, Ak, nk, ck, hAd, _, hxk, ckw, h1, h2, hreadk⟩ := HS.out wr HB.out k hkl
          subst hAd
          have IAk := Lib.hid (IA.out x k xs hxk)
          have hnk : xs.length = nk := by have := hreadk.1; simpa using this
          have RH := Lib.hid (fun W hW => refHas_any Ak nk ck w.heap.size xs x W hW (by have := SH.out xs (List.mem_of_getElem? hxk); omega))
          have cxw := CX.out wr HB.out
          replace hreadk := Lib.hid hreadk
          clear h1 h2 hxk hnk
          cases hb : inAny (xss.take k) x
          · have Hnew : Hid (inAny (xss.take (k + 1)) x = decide (x ∈ xs)) := by rw [Hid, IAk.out, hb]; simp
            clear hb
            go_wp2_with fail
            refine region_E 13 (fun W => W.cell? (ad0.add i) = some (.int .i64 x) ∧ W.cell? (ad'.add k) = some (.slice Ak nk ck)) (by kernel_rfl) ⟨cxw, ckw⟩ (fun hHeld => ?_)
            refine took 0 (v := ?_) rfl (by kernel_rfl) (by kernel_rfl) (by kernel_rfl) (by kernel_rfl) (fun _ _ _ h => h) (by rfl) (by assumption) ?_ ?_
            rotate_left
            · (intro W hSw; (try dsimp only at hSw); go_simp; first | done | with_reducible rfl)
            try simp only [Act.put, List.setIfInBounds_toArray, List.set_cons_zero, List.set_cons_succ]
            refine took 1 (v := ?_) rfl (by kernel_rfl) (by kernel_rfl) (by kernel_rfl) (by kernel_rfl) (fun _ _ _ h => h) (by rfl) (by assumption) ?_ ?_
            rotate_left
            · (intro W hSw; (try dsimp only at hSw); go_simp; first | done | with_reducible rfl)
            try simp only [Act.put, List.setIfInBounds_toArray, List.set_cons_zero, List.set_cons_succ]
            refine took 2 (v := ?_) rfl (by kernel_rfl) (by kernel_rfl) (by kernel_rfl) (by kernel_rfl) (fun _ _ _ h => h) (by rfl) (by assumption) ?_ ?_
            rotate_left
            · (intro W hSw; (try dsimp only at hSw); go_simp; first | done | with_reducible rfl)
            try simp only [Act.put, List.setIfInBounds_toArray, List.set_cons_zero, List.set_cons_succ]
            refine took 3 (v := ?_) rfl (by kernel_rfl) (by kernel_rfl) (by kernel_rfl) (by kernel_rfl) (fun _ _ _ h => h) (by rfl) (by assumption) ?_ ?_
            rotate_left
            · (intro W hSw; (try dsimp only at hSw); go_simp; first | done | with_reducible rfl)
            try simp only [Act.put, List.setIfInBounds_toArray, List.set_cons_zero, List.set_cons_succ]
            refine took 4 (v := ?_) rfl (by kernel_rfl) (by kernel_rfl) (by kernel_rfl) (by kernel_rfl) (fun _ _ _ h => h) (by rfl) (by assumption) ?_ ?_
            rotate_left
            · (intro W hSw; (try dsimp only at hSw); go_simp; first | done | with_reducible rfl)
            try simp only [Act.put, List.setIfInBounds_toArray, List.set_cons_zero, List.set_cons_succ]
            refine took 5 (v := ?_) rfl (by kernel_rfl) (by kernel_rfl) (by kernel_rfl) (by kernel_rfl) (fun _ _ _ h => h) (by rfl) (by assumption) ?_ ?_
            rotate_left
            · (intro W hSw; (try dsimp only at hSw); go_simp; first | done | with_reducible rfl)
            try simp only [Act.put, List.setIfInBounds_toArray, List.set_cons_zero, List.set_cons_succ]
            refine took 6 (v := ?_) rfl (by kernel_rfl) (by kernel_rfl) (by kernel_rfl) (by kernel_rfl) (fun _ _ _ h => h) (by rfl) (by assumption) ?_ ?_
            rotate_left
            · (intro W hSw; (try dsimp only at hSw); go_simp; first | done | with_reducible rfl)
            try simp only [Act.put, List.setIfInBounds_toArray, List.set_cons_zero, List.set_cons_succ]
            refine took 7 (v := ?_) rfl (by kernel_rfl) (by kernel_rfl) (by kernel_rfl) (by kernel_rfl) (fun _ _ _ h => h) (by rfl) (by assumption) ?_ ?_
            rotate_left
            · (intro W hSw; (try dsimp only at hSw); go_simp; first | done | with_reducible rfl)
            try simp only [Act.put, List.setIfInBounds_toArray, List.set_cons_zero, List.set_cons_succ]
            refine took 8 (v := ?_) rfl (by kernel_rfl) (by kernel_rfl) (by kernel_rfl) (by kernel_rfl) (fun _ _ _ h => h) (by rfl) (by assumption) ?_ ?_
            rotate_left
            · (intro W hSw; (try dsimp only at hSw); go_simp; first | done | with_reducible rfl)
            try simp only [Act.put, List.setIfInBounds_toArray, List.set_cons_zero, List.set_cons_succ]
            refine took 9 (v := ?_) rfl (by kernel_rfl) (by kernel_rfl) (by kernel_rfl) (by kernel_rfl) (fun _ _ _ h => h) (by rfl) (by assumption) ?_ ?_
            rotate_left
            · (intro W hSw; (try dsimp only at hSw); go_simp; first | done | with_reducible rfl)
            try simp only [Act.put, List.setIfInBounds_toArray, List.set_cons_zero, List.set_cons_succ]
            refine carried 10 rfl (by kernel_rfl) (by rfl) (fun K hK => ?_)
            go_simp
            (go_at_call 25; ((with_reducible refine (RH.out _ hreadk.out.drew).mono ?_); rintro e w' ⟨rfl, rfl⟩))
            refine hK.out _ _ (hHeld) (fun hHeld => ?_)
            clear hK K
            try simp only [Act.put, List.setIfInBounds_toArray, List.set_cons_zero, List.set_cons_succ]
            refine took 11 (v := ?_) rfl (by kernel_rfl) (by kernel_rfl) (by kernel_rfl) (by kernel_rfl) (fun _ _ _ h => h) (by rfl) (by assumption) ?_ ?_
            rotate_left
            · (intro W hSw; (try dsimp only at hSw); go_simp; first | done | with_reducible rfl)
            try simp only [Act.put, List.setIfInBounds_toArray, List.set_cons_zero, List.set_cons_succ]
            refine took 12 (v := ?_) rfl (by kernel_rfl) (by kernel_rfl) (by kernel_rfl) (by kernel_rfl) (fun _ _ _ h => h) (by rfl) (by assumption) ?_ ?_
            rotate_left
            · (intro W hSw; (try dsimp only at hSw); go_simp; first | done | with_reducible rfl)
            try simp only [Act.put, List.setIfInBounds_toArray, List.set_cons_zero, List.set_cons_succ]
            refine allDone (by kernel_rfl) ?_ _
            clear hHeld cxw ckw
            go_wp2_with fail
            go_roundw
            case rel => exact ⟨k + 1, by rw [Hnew.out], by go_num, by omega, HB.out.drew, HO.out.drew⟩
            case measure => simp [intOf]; omega
          · have Hnew : Hid (inAny (xss.take (k + 1)) x = true) := by rw [Hid, IAk.out, hb]; rfl
            clear hb
            go_wp2_with fail
            refine region_E 13 (fun W => True) (by kernel_rfl) trivial (fun hHeld => ?_)
            refine took 0 (v := ?_) rfl (by kernel_rfl) (by kernel_rfl) (by kernel_rfl) (by kernel_rfl) (fun _ _ _ h => h) (by rfl) (by assumption) ?_ ?_
            rotate_left
            · (intro W hSw; (try dsimp only at hSw); go_simp; first | done | with_reducible rfl)
            try simp only [Act.put, List.setIfInBounds_toArray, List.set_cons_zero, List.set_cons_succ]
            refine took 1 (v := ?_) rfl (by kernel_rfl) (by kernel_rfl) (by kernel_rfl) (by kernel_rfl) (fun _ _ _ h => h) (by rfl) (by assumption) ?_ ?_
            rotate_left
            · (intro W hSw; (try dsimp only at hSw); go_simp; first | done | with_reducible rfl)
            try simp only [Act.put, List.setIfInBounds_toArray, List.set_cons_zero, List.set_cons_succ]
            refine passed 2 rfl (by kernel_rfl) (by kernel_rfl) (by kernel_rfl) (by kernel_rfl) (fun _ _ _ h => h) (by rfl) (by assumption) ?_
            try simp only [Act.put, List.setIfInBounds_toArray, List.set_cons_zero, List.set_cons_succ]
            refine passed 3 rfl (by kernel_rfl) (by kernel_rfl) (by kernel_rfl) (by kernel_rfl) (fun _ _ _ h => h) (by rfl) (by assumption) ?_
            try simp only [Act.put, List.setIfInBounds_toArray, List.set_cons_zero, List.set_cons_succ]
            refine passed 4 rfl (by kernel_rfl) (by kernel_rfl) (by kernel_rfl) (by kernel_rfl) (fun _ _ _ h => h) (by rfl) (by assumption) ?_
            try simp only [Act.put, List.setIfInBounds_toArray, List.set_cons_zero, List.set_cons_succ]
            refine passed 5 rfl (by kernel_rfl) (by kernel_rfl) (by kernel_rfl) (by kernel_rfl) (fun _ _ _ h => h) (by rfl) (by assumption) ?_
            try simp only [Act.put, List.setIfInBounds_toArray, List.set_cons_zero, List.set_cons_succ]
            refine passed 6 rfl (by kernel_rfl) (by kernel_rfl) (by kernel_rfl) (by kernel_rfl) (fun _ _ _ h => h) (by rfl) (by assumption) ?_
            try simp only [Act.put, List.setIfInBounds_toArray, List.set_cons_zero, List.set_cons_succ]
            refine passed 7 rfl (by kernel_rfl) (by kernel_rfl) (by kernel_rfl) (by kernel_rfl) (fun _ _ _ h => h) (by rfl) (by assumption) ?_
            try simp only [Act.put, List.setIfInBounds_toArray, List.set_cons_zero, List.set_cons_succ]
            refine passed 8 rfl (by kernel_rfl) (by kernel_rfl) (by kernel_rfl) (by kernel_rfl) (fun _ _ _ h => h) (by rfl) (by assumption) ?_
            try simp only [Act.put, List.setIfInBounds_toArray, List.set_cons_zero, List.set_cons_succ]
            refine passed 9 rfl (by kernel_rfl) (by kernel_rfl) (by kernel_rfl) (by kernel_rfl) (fun _ _ _ h => h) (by rfl) (by assumption) ?_
            try simp only [Act.put, List.setIfInBounds_toArray, List.set_cons_zero, List.set_cons_succ]
            refine passed 10 rfl (by kernel_rfl) (by kernel_rfl) (by kernel_rfl) (by kernel_rfl) (fun _ _ _ h => h) (by rfl) (by assumption) ?_
            try simp only [Act.put, List.setIfInBounds_toArray, List.set_cons_zero, List.set_cons_succ]
            refine took 11 (v := ?_) rfl (by kernel_rfl) (by kernel_rfl) (by kernel_rfl) (by kernel_rfl) (fun _ _ _ h => h) (by rfl) (by assumption) ?_ ?_
            rotate_left
            · (intro W hSw; (try dsimp only at hSw); go_simp; first | done | with_reducible rfl)
            try simp only [Act.put, List.setIfInBounds_toArray, List.set_cons_zero, List.set_cons_succ]
            refine took 12 (v := ?_) rfl (by kernel_rfl) (by kernel_rfl) (by kernel_rfl) (by kernel_rfl) (fun _ _ _ h => h) (by rfl) (by assumption) ?_ ?_
            rotate_left
            · (intro W hSw; (try dsimp only at hSw); go_simp; first | done | with_reducible rfl)
            try simp only [Act.put, List.setIfInBounds_toArray, List.set_cons_zero, List.set_cons_succ]
            refine allDone (by kernel_rfl) ?_ _
            clear hHeld cxw ckw
            go_wp2_with fail
            go_roundw
            case rel => exact ⟨k + 1, by rw [Hnew.out], by go_num, by omega, HB.out.drew, HO.out.drew⟩
            case measure => simp [intOf]; omega
        · have hkn2 : k = n := by omega
          have hge : (n : Int) ≤ k := by omega
          have HE : Hid (inAny (xss.take k) x = inAny xss x) := by rw [hkn2]; exact IE.out x
          have cxw := CX.out wr HB.out
          replace hkn2 := Lib.hid hkn2
          cases hb : inAny (xss.take k) x
          · have Fi : Hid (F (i + 1) = F i ++ [x]) := by rw [FS.out, ← HE.out, hb]; rfl
            clear hb
            have hgd : w.heap.size ≤ wr.heap.size := HB.out.size
            have hb1 : m + 1 ≤ maxLen := by unfold maxLen; omega
            have hb2 : (m + 1) * 8 ≤ 140737488355328 := by omega
            go_wp2_with (at_builtin; refine wpList_append_any _ rfl (.tmp 44) (.tmp 49) 25 rfl w.heap.size 3 i0 (.int .i64 0) 1 8 Try.underlying25 hi.out hz0.out hz1.out hz2.out rfl (by omega) A1 m c' _ rfl (HO.out.alloc (.cells #[.int .i64 x] 3)) (wr.heap.size + 1) _ 1 1 _ rfl (reads_one wr _ _) (one_one rfl) hb1 hb2 (show w.heap.size ≤ (wr.alloc (.cells #[.int .i64 x] 3)).heap.size from Nat.le_trans hgd (by simp)) ?_; intro A3 c3 w4 ho4 hg4 _hs4; have hB4 : Below w.heap.size w w4 := below_app (HB.out.alloc hgd (.cells #[.int .i64 x] 3)) hg4 (HO.out.alloc (.cells #[.int .i64 x] 3)) (show w.heap.size ≤ (wr.alloc (.cells #[.int .i64 x] 3)).heap.size from Nat.le_trans hgd (by simp)); replace ho4 := Lib.hid ho4; replace hB4 := Lib.hid hB4; clear hg4 _hs4)
            go_roundw
            case rel => exact ⟨i + 1, c3, m + 1, A3, rfl, by go_num, by omega, by omega, hB4, (by rw [Fi.out, List.length_append, HL.out]; rfl), (by rw [Fi.out, List.map_append]; exact ho4)⟩
            case measure => simp [intOf]; omega
          · have Fi : Hid (F (i + 1) = F i) := by rw [Hid, FS.out, ← HE.out, hb]; simp
            clear hb
            go_wp2_with fail
            go_roundw
            case rel => exact ⟨i + 1, c', m, A1, rfl, by go_num, by omega, by omega, HB, (by rw [Fi.out]; exact HL), (by rw [Fi.out]; exact HO)⟩
            case measure => simp [intOf]; omega
    · have hge : (n0 : Int) ≤ i := by omega
      have hin2 : i = n0 := by omega
      rw [hin2] at HO HL
      replace hin2 := Lib.hid hin2
      rw [← HL.out] at HO
      have HL2 := Lib.hid HL.out
      go_wp2_with fail
      go_ret2
      exact ⟨A1, c', (show Ending.returned (.tuple #[.slice A1 m c', .int .i64 0]) = _ by rw [HL2.out]), HO.out, HB.out⟩

/-- what both of Less say -/
theorem lesses (A A' : Option Addr) (n c n0 c0 : Nat) (l0 : List Int) (xss : List (List Int)) (hn : n < 4294967296) (hs : Short xss) (hl : l0.length = n0) (hn0 : n0 < 4294967296) : ∃ (r : List Int) (er : Int),
    (∀ W, RowsI W W.heap.size A n xss → Reads W W.heap.size 1 A' n0 (l0.map I64) → Calls Try.prog 21 #[.slice A' n0 c0, .slice A n c] W (SlErrI W r er)) ∧ (∀ W, RowsI W W.heap.size A n xss → Reads W W.heap.size 1 A' n0 (l0.map I64) → Calls Try.prog 22 #[.slice A' n0 c0, .slice A n c] W (SlErrI W r er)) ∧ r.length < 4294967296 := by
  by_cases hb : allSets xss = false ∨ Setp.may l0 = false
  · exact ⟨[], 13, fun W h h0 => less_bad A A' n c n0 c0 l0 xss W h hn hs h0 hn0 hb, fun W h h0 => refLess_bad A A' n c n0 c0 l0 xss W h hn hs h0 hn0 hb, by simp⟩
  · have ha : allSets xss = true := by
      cases h : allSets xss
      · exact absurd (.inl h) hb
      · rfl
    have hm : Setp.may l0 = true := by
      cases h : Setp.may l0
      · exact absurd (.inr h) hb
      · rfl
    exact ⟨_, 0, fun W h h0 => less_in A A' n c n0 c0 l0 xss W h hn hs ha h0 hn0 hm, fun W h h0 => refLess_in A A' n c n0 c0 l0 xss W h hn hs ha h0 hn0 hm, Nat.lt_of_le_of_lt (List.length_filter_le _ _) (by omega)⟩

set_option maxRecDepth 100000 in
set_option maxHeartbeats 1000000 in
theorem setsLess_walk (A' : Option Addr) (n0 c0 : Nat) (l0 : List Int) (A : Option Addr) (n c : Nat) (xss : List (List Int)) (w : World) (_hnc0 : n0 ≤ c0) (_m0 : c0 ≤ maxLen) (h00 : Reads w w.heap.size 1 A' n0 (l0.map I64) ∧ ∀ x ∈ l0, (Lit.int .i64 x).wf = true) (_hnc : n ≤ c) (_m : c ≤ maxLen) (h0 : RowsI w w.heap.size A n xss ∧ ∀ xs ∈ xss, ∀ x ∈ xs, (Lit.int .i64 x).wf = true) :
    Calls Try.prog 6 #[.slice A' n0 c0, .slice A n c] w fun e w' => e = .returned (.bool true) ∧ Below w.heap.size w w' := by
  have h := h0.1
  have g := h00.1
  have hl := h.len
  have hl0 : l0.length = n0 := by have := g.1; simpa using this
  have H := Lib.hid (fun W (hW : Below w.heap.size w W) => (h.below hW).more hW.size)
  have H0 := Lib.hid (fun W (hW : Below w.heap.size w W) => (g.below hW).more hW.size)
  have G := Lib.hid (fun W hW => great_any A n c W.heap.size xss W hW)
  have BO := Lib.hid (fun hn hs hn0 => lesses A A' n c n0 c0 l0 xss hn hs hl0 hn0)
  have GS := Lib.hid (fun hg => greatI_short (xss := xss) hg)
  have L := Lib.hid hl
  clear h0 h00 h g hl hl0 _hnc _m _hnc0 _m0
  by_cases h60 : 60 < n0
  · have h60' : (60 : Int) < n0 := by omega
    go_enter Try.func6, Try.ntmps6
    go_wp2_with fail
    refine (alive_any _).mono ?_; rintro e w1 ⟨rfl, hB1⟩
    replace hB1 := Lib.hid hB1
    go_wp2_with fail
    go_ret
    exact ⟨rfl, hB1.out⟩
  have h60' : (n0 : Int) ≤ 60 := by omega
  go_enter Try.func6, Try.ntmps6
  go_wp2_with fail
  refine (alive_any _).mono ?_; rintro e w1 ⟨rfl, hB1⟩
  replace hB1 := Lib.hid hB1
  go_wp2_with fail
  refine (G.out _ (H.out _ hB1.out)).mono ?_; rintro e w' ⟨rfl, rfl⟩
  cases hg : greatI xss
  · obtain ⟨s1, s2⟩ := GS.out hg
    obtain ⟨r, er, P1, P2, hr⟩ := BO.out (by have := L.out; omega) (fun xs hx => by have := s2 xs hx; omega) (by omega)
    unfold SlErrI at P1 P2
    have hrl : Hid (r.length < 4294967296) := hr
    replace P1 := Lib.hid P1; replace P2 := Lib.hid P2
    clear hg s1 s2 BO GS G hr
    go_wp2_with fail
    refine (P1.out _ (H.out _ hB1.out) (H0.out _ hB1.out)).mono ?_; rintro e w2 ⟨A2, c2, rfl, ho2, hB2⟩
    have HB2 := Lib.hid (below_thenI hB1.out hB2)
    replace ho2 := Lib.hid ho2
    clear hB2
    go_wp2_with fail
    refine (P2.out _ (H.out _ HB2.out) (H0.out _ HB2.out)).mono ?_; rintro e w3 ⟨A3, c3, rfl, ho3, hB3⟩
    have HB3 := Lib.hid (below_thenI HB2.out hB3)
    have hr2 := (Reads.of_own (own_belowI ho2.out hB3))
    have SM := Lib.hid (sameI_any A2 A3 r.length c2 c3 w3.heap.size r w3 hr2 (Reads.of_own ho3) hrl.out)
    clear hB3 ho2 ho3 hr2
    go_wp2_with fail
    refine SM.out.mono ?_; rintro e w4 ⟨rfl, hD⟩
    have HB4 := Lib.hid (below_thenI HB3.out (hD.below _))
    clear hD
    go_wp2_with fail
    go_ret
    exact ⟨rfl, HB4.out⟩
  · go_wp2_with fail
    go_ret
    exact ⟨rfl, hB1.out⟩
end Go.Proofs.Ytpgnaahfkcgflaa
