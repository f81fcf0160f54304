/-
  What all lists have: walked.
-/
import Derived.Test.YtpgnaahfkcgflaaSetg
namespace Go.Proofs.Ytpgnaahfkcgflaa
set_option linter.unusedSimpArgs false
set_option linter.unusedVariables false
open Go.RowKit

/-- one walk has turned to x -/
theorem Wks.has {W W' : World} {B i : Nat} {gs : List Nat} {xss : List (List Int)} {x : Int} {xs : List Int} {A : Option Addr} {n c : Nat} (h : Wks W B gs xss x) (hi : i < gs.length) (hx : xss[i]? = some xs) (hT : Turn gs[i] W W') (hb : Blk W' gs[i] 57 #[.slice A n c, .int .i64 (Setp.low x xs : Nat)])
    (hr : Reads W B 1 A n (xs.map I64)) (hnc : n ≤ c) : Wks W' B gs xss x := by
  refine ⟨h.len, h.apart, h.low, fun j hj ys hy => ?_⟩
  by_cases e : j = i
  · subst e
    rw [hx] at hy
    injection hy with hy
    subst hy
    have hl : xs.length = n := by have := hr.1; simpa using this
    exact ⟨A, n, c, Setp.low x xs, hb, hT.reads hr (h.low _ (List.getElem_mem hi)), hnc, by rw [← hl]; exact Setp.low_le x xs, fun k hk hkl => Setp.low_lt x xs k hk hkl⟩
  · exact (h.wk j hj ys hy).turn hT (fun e2 => e (h.apart j i hj hi e2)) (h.low _ (List.getElem_mem hi))
theorem all_at {xss : List (List Int)} (h : allSets xss = true) {i : Nat} {xs : List Int} (hx : xss[i]? = some xs) : Setp.may xs = true := List.all_eq_true.1 h xs (List.mem_of_getElem? hx)
theorem inAll_take (xss : List (List Int)) (x : Int) (t : Nat) (l : List Int) (h : xss[t + 1]? = some l) : inAll ((xss.drop 1).take (t + 1)) x = (inAll ((xss.drop 1).take t) x && decide (x ∈ l)) := inAll_step xss x (t + 1) l h (by omega)
theorem inAll_no (xss : List (List Int)) (x : Int) (t : Nat) (l : List Int) (h : xss[t + 1]? = some l) (hn : x ∉ l) : inAll (xss.drop 1) x = false := by
  have h2 : (xss.drop 1)[t]? = some l := by rw [List.getElem?_drop, Nat.add_comm]; exact h
  unfold inAll
  rw [List.all_eq_false]
  exact ⟨l, List.mem_of_getElem? h2, by simpa using hn⟩

set_option maxRecDepth 100000 in
set_option maxHeartbeats 8000000 in
theorem both_in (A : Option Addr) (n c : Nat) (xss : List (List Int)) (w : World) (h : RowsI w w.heap.size A n xss) (hn : n < 4294967296) (hn0 : 0 < n) (hs : Short xss) (ha : allSets xss = true) :
    Calls Try.prog 12 #[.slice A n c] w (SlErrI w ((xss.headD []).filter (inAll (xss.drop 1))) 0) := by
  have hl := h.len
  obtain ⟨ad, l0, A0, n0, c0, rfl, hbl, hx0, c00, hnc0, hcm0, hread0⟩ := h.row hn0
  have hl0 : l0.length = n0 := by have := hread0.1; simpa using this
  have hn0b : n0 < 4294967296 := by have := hs l0 (List.mem_of_getElem? hx0); omega
  have hhd : xss.headD [] = l0 := by
    cases xss with
    | nil => simp at hx0
    | cons a t => simpa using hx0
  rw [hhd]
  have hm0 := all_at ha hx0
  obtain ⟨F, hF⟩ : ∃ F : Nat → List Int, F = fun i => (l0.take i).filter (inAll (xss.drop 1)) := ⟨_, rfl⟩
  have F0 : Hid (F 0 = []) := by rw [hF]; rfl
  have Fe : Hid (l0.filter (inAll (xss.drop 1)) = F n0) := by rw [hF, ← hl0]; simp [Hid]
  have Fs : Hid (∀ i x, l0[i]? = some x → F (i + 1) = F i ++ (if inAll (xss.drop 1) x = true then [x] else [])) := fun i x hx => by rw [hF]; exact filter_step l0 _ i x hx
  have IA := Lib.hid (fun x t l hx => inAll_take xss x t l hx)
  have IN := Lib.hid (fun x t l hx hno => inAll_no xss x t l hx hno)
  have IE : Hid (∀ x, inAll ((xss.drop 1).take (n - 1)) x = inAll (xss.drop 1) x) := fun x => by rw [List.take_of_length_le (by rw [List.length_drop]; omega)]
  have UP : Hid (∀ i x y, l0[i]? = some x → l0[i + 1]? = some y → x ≤ y) := fun i x y hx hy => by
    obtain ⟨h1, e1⟩ := List.getElem?_eq_some_iff.1 hx
    obtain ⟨h2, e2⟩ := List.getElem?_eq_some_iff.1 hy
    have := Setp.may_rising hm0 i (i + 1) h2 (by omega)
    omega
  have PO : Hid (∀ x, l0[0]? = some x → 0 ≤ x) := fun x hx => by
    obtain ⟨h1, e1⟩ := List.getElem?_eq_some_iff.1 hx
    have := Setp.may_pos hm0 0 h1
    omega
  have BG := Lib.hid (begin_any (some ad) n c xss w h hn hs)
  unfold BegRet at BG
  simp only [ha, if_true, hl] at BG
  have HS := Lib.hid (fun (W : World) (hW : Below w.heap.size w W) (k : Nat) (hk : k < n) => (h.below hW).row hk)
  have HS0 := Lib.hid (fun (W : World) (hW : Below w.heap.size w W) => hread0.below hW)
  have SH := Lib.hid hs
  have ALL : Hid (∀ (t : Nat), t < n → ∃ xs, xss[t]? = some xs ∧ (∀ i j (hj : j < xs.length) (hij : i < j), xs[i] < xs[j]) ∧ xs.length < 4294967296) := fun t ht => by
    have hx : xss[t]? = some (xss[t]'(by omega)) := List.getElem?_eq_getElem _
    exact ⟨_, hx, Setp.may_rising (all_at ha hx), hs _ (List.mem_of_getElem? hx)⟩
  have L0 := Lib.hid hl0
  have LX := Lib.hid hl
  rw [Fe.out]
  have hne : ((n : Int) == 0) = false := by rw [beq_eq_false_iff_ne]; omega
  obtain ⟨i0, hi, hz0, hz1, hz2⟩ := info_parts info_int
  obtain ⟨j0, hj, hy0, hy1, hy2⟩ := info_parts info_pset
  have CUT : ∀ (Ap : Option Addr) (cp : Nat) W, (Instr.slice 42 (.slice Ap n cp) (some (.int .i64 1)) none none).run Try.prog W = .ok (.slice (cutA Ap cp 1 1) (n - 1) (cp - 1)) W := fun Ap cp W => by
    have h := run_cut_lo (P := Try.prog) 42 45 j0 1 Try.underlying42 hj hy1 Ap n cp 1 .i64 (by omega) W
    simpa using h
  replace CUT := Lib.hid CUT
  replace hi := Lib.hid hi; replace hz0 := Lib.hid hz0; replace hz1 := Lib.hid hz1; replace hz2 := Lib.hid hz2
  clear hj hy0 hy1 hy2
  have C0 : Hid (∀ W, Below w.heap.size w W → W.cell? ad = some (.slice A0 n0 c0)) := fun W hW => (hW.cell hbl).trans (by simpa [Addr.add] using c00)
  clear h hl hread0 hl0 hx0 hhd hF ha hs c00 hbl hm0
  go_enter Try.func12, Try.ntmps12
  go_wp2_with fail
  refine BG.out.mono ?_; rintro e w1 ⟨Ap, cp, gs, rfl, hop, hw1, hB1⟩
  have hcp := (own_cap hop).1
  have hgl : gs.length = n := by rw [hw1.len, LX.out]
  replace hB1 := Lib.hid hB1; replace hop := Lib.hid hop; replace hw1 := Lib.hid hw1; replace hgl := Lib.hid hgl
  have c0w := C0.out w1 hB1.out
  go_wp2_with fail
  clear c0w BG
  go_loopw [6, 28] (fun v6 v28 wr => ∃ (i c' m : Nat) (A1 : Option Addr), v6 = .slice A1 m c' ∧ v28 = .int .i64 i ∧ i ≤ n0 ∧ m ≤ i ∧ Hid (Below w.heap.size w wr) ∧ Hid ((F i).length = m) ∧ Hid (wr.ownsRow w.heap.size 3 1 (.slice A1 m c') m ((F i).map I64)) ∧ Hid (wr.ownsRow w.heap.size 45 1 (.slice Ap n cp) n (gs.map ptr)) ∧ Hid (∀ x, l0[i]? = some x → Wks wr w.heap.size gs xss x)) (fun _ v28 _ => n0 - (intOf v28).toNat)
  case atStart => exact ⟨0, 0, 0, none, rfl, rfl, by omega, by omega, hB1, (by rw [F0.out]; rfl), (by rw [F0.out]; exact World.ownsRow_nil _ _ _ 1), hop, fun x hx => hw1.out.map fun g xs _ hk => hk.mono (PO.out x hx)⟩
  case round =>
    clear hB1 hop hw1
    obtain ⟨i, c', m, A1, rfl, rfl, hin, hmi, HB, HL, HO, HP, HW⟩ := hrel
    by_cases hlt : i < n0
    · have hlt' : (i : Int) < n0 := by omega
      obtain ⟨ad0, hA0, hcell⟩ := ints_cells (HS0.out wr HB.out) (by omega)
      subst hA0
      have hix : i < l0.length := by rw [L0.out]; exact hlt
      have HX : Hid (l0[i]? = some l0[i]) := List.getElem?_eq_getElem hix
      have cx := hcell i hix
      clear hcell
      generalize l0[i] = x at *
      have FS := Lib.hid (Fs.out i x HX.out)
      have HWx := Lib.hid (HW.out x HX.out)
      have UPx : Hid (∀ y, l0[i + 1]? = some y → x ≤ y) := fun y hy => UP.out i x y HX.out hy
      have cut := CUT.out Ap cp
      clear HW
      go_wp2_with fail
      clear cut cx
      generalize hAt : cutA Ap cp 1 1 = At at *
      replace hAt := Lib.hid hAt
      go_loopw [9, 35] (fun v9 v35 wr => ∃ (t : Nat), v9 = .bool true ∧ v35 = .int .i64 t ∧ t ≤ n - 1 ∧ Hid (inAll ((xss.drop 1).take t) x = true) ∧ Hid (Below w.heap.size w wr) ∧ Hid (wr.ownsRow w.heap.size 3 1 (.slice A1 m c') m ((F i).map I64)) ∧ Hid (wr.ownsRow w.heap.size 45 1 (.slice Ap n cp) n (gs.map ptr)) ∧ Hid (Wks wr w.heap.size gs xss x)) (fun _ v35 _ => n - 1 - (intOf v35).toNat)
      case atStart => exact ⟨0, rfl, rfl, by omega, rfl, HB, HO, HP, HWx⟩
      case round =>
        clear HB HO HP HWx
        obtain ⟨t, rfl, rfl, htn, HIN, HB, HO, HP, HWx⟩ := hrel
        by_cases htl : t < n - 1
        · have htl' : (t : Int) < ((n - 1 : Nat) : Int) := by omega
          have htg : t + 1 < gs.length := by rw [hgl.out]; omega
          obtain ⟨xs, hxt, hris, hsh⟩ := ALL.out (t + 1) (by omega)
          obtain ⟨Ax, nx, cx, ax, hbx, hrx, hncx, hax, hlow⟩ := HWx.out.wk (t + 1) htg xs hxt
          have hlx : xs.length = nx := by have := hrx.1; simpa using this
          have hgB := HWx.out.low _ (List.getElem_mem htg)
          have hrd : Reads wr wr.heap.size 1 At (n - 1) ((gs.map ptr).drop 1) := by
            have h1 := Reads.of_own HP.out
            have h2 := h1.cut (k := 1) (cap := cp) (by omega) hcp
            rw [← hAt.out]
            simpa [cutA] using h2
          obtain ⟨adp, u, hAp, _, hu, ct⟩ := hrd.at_ htl
          rw [List.getElem?_drop, List.getElem?_map, Nat.add_comm 1 t, List.getElem?_eq_getElem htg] at hu
          simp only [Option.map_some, Option.some.injEq] at hu
          subst hu
          have HHAS : Hid (∀ W, Turn gs[t + 1] wr W → Wks W w.heap.size gs xss x → Wks W w.heap.size gs xss x) := fun W _ h => h
          have HS2 := Lib.hid (has_any gs[t + 1] 57 Ax nx cx ax w.heap.size xs x wr hbx hrx hgB hris hlow hax hncx (by omega))
          have HTK := Lib.hid (fun (W : World) (hT : Turn gs[t + 1] wr W) (hb : Blk W gs[t + 1] 57 #[.slice Ax nx cx, .int .i64 (Setp.low x xs : Nat)]) => (⟨HWx.out.has htg hxt hT hb hrx hncx, hT.below HB.out hgB, own_turn HO.out hT hbx (by decide), own_turn HP.out hT hbx (by decide)⟩ : Wks W w.heap.size gs xss x ∧ Below w.heap.size w W ∧ W.ownsRow w.heap.size 3 1 (.slice A1 m c') m ((F i).map I64) ∧ W.ownsRow w.heap.size 45 1 (.slice Ap n cp) n (gs.map ptr)))
          have IAt := Lib.hid (IA.out x t xs hxt)
          have INt := Lib.hid (fun hno => IN.out x t xs hxt hno)
          unfold ptr at ct
          subst hAp
          clear hbx hrx hris hlow hlx hsh hrd hxt HHAS
          generalize gs[t + 1] = g at *
          go_wp2_with fail
          refine HS2.out.mono ?_; rintro e w2 ⟨rfl, hT2, hb2⟩
          obtain ⟨hW2, hB2, hO2, hP2⟩ := HTK.out w2 hT2 hb2
          replace hW2 := Lib.hid hW2; replace hB2 := Lib.hid hB2; replace hO2 := Lib.hid hO2; replace hP2 := Lib.hid hP2
          clear hT2 hb2 HTK HS2 ct
          by_cases hmem : x ∈ xs
          · have hd : decide (x ∈ xs) = true := by simpa using hmem
            have HIN2 : Hid (inAll ((xss.drop 1).take (t + 1)) x = true) := by rw [Hid, IAt.out, HIN.out, hd]; rfl
            rw [hd]
            clear hmem hd
            go_wp2_with fail
            go_roundw
            case rel => exact ⟨t + 1, rfl, by go_num, by omega, HIN2, hB2, hO2, hP2, hW2⟩
            case measure => simp [intOf]; omega
          · have hd : decide (x ∈ xs) = false := by simpa using hmem
            have Fi : Hid (F (i + 1) = F i) := by rw [Hid, FS.out, INt.out hmem]; simp
            rw [hd]
            clear hmem hd
            go_wp2_with fail
            go_roundw
            case rel => exact ⟨i + 1, c', m, A1, rfl, by go_num, by omega, by omega, hB2, (by rw [Fi.out]; exact HL), (by rw [Fi.out]; exact hO2), hP2, fun y hy => hW2.out.map fun g ys _ hk => hk.mono (UPx.out y hy)⟩
            case measure => simp [intOf]; omega
        · have htn2 : t = n - 1 := by omega
          have hge : ((n - 1 : Nat) : Int) ≤ t := by omega
          have HE : Hid (inAll (xss.drop 1) x = true) := by rw [← IE.out x, ← htn2]; exact HIN.out
          have Fi : Hid (F (i + 1) = F i ++ [x]) := by rw [Hid, FS.out, HE.out]; rfl
          replace htn2 := Lib.hid htn2
          have hgd : w.heap.size ≤ wr.heap.size := HB.out.size
          have hb1 : m + 1 ≤ maxLen := by unfold maxLen; omega
          have hb2 : (m + 1) * 8 ≤ 140737488355328 := by omega
          go_wp2_with (at_builtin; refine wpList_append_any _ rfl (.tmp 46) (.tmp 48) 25 rfl w.heap.size 3 i0 (.int .i64 0) 1 8 Try.underlying25 hi.out hz0.out hz1.out hz2.out rfl (by omega) A1 m c' _ rfl (HO.out.alloc (.cells #[.int .i64 x] 3)) (wr.heap.size + 1) _ 1 1 _ rfl (reads_one wr _ _) (one_one rfl) hb1 hb2 (show w.heap.size ≤ (wr.alloc (.cells #[.int .i64 x] 3)).heap.size from Nat.le_trans hgd (by simp)) ?_; intro A3 c3 w4 ho4 hg4 _hs4; have hown := HO.out.alloc (.cells #[.int .i64 x] 3); have hB4 : Below w.heap.size w w4 := below_app (HB.out.alloc hgd (.cells #[.int .i64 x] 3)) hg4 hown (show w.heap.size ≤ (wr.alloc (.cells #[.int .i64 x] 3)).heap.size from Nat.le_trans hgd (by simp)); have hP4 := own_grown (HP.out.alloc (.cells #[.int .i64 x] 3)) hown hg4 (by decide); have hW4 := HWx.out.map (W' := w4) (z' := x) (fun g ys _ hk => (hk.below ((Below.refl _ _).alloc (Nat.le_refl _) (.cells #[.int .i64 x] 3)) hgd).grown hown hg4 (by decide) (Nat.le_refl _) (Nat.le_trans hgd (by simp))); replace ho4 := Lib.hid ho4; replace hB4 := Lib.hid hB4; replace hP4 := Lib.hid hP4; replace hW4 := Lib.hid hW4; clear hg4 _hs4 hown)
          go_roundw
          case rel => exact ⟨i + 1, c3, m + 1, A3, rfl, by go_num, by omega, by omega, hB4, (by rw [Fi.out, List.length_append, HL.out]; rfl), (by rw [Fi.out, List.map_append]; exact ho4), hP4, fun y hy => hW4.out.map fun g ys _ hk => hk.mono (UPx.out y hy)⟩
          case measure => simp [intOf]; omega
    · have hge : (n0 : Int) ≤ i := by omega
      have hin2 : i = n0 := by omega
      rw [hin2] at HO HL
      replace hin2 := Lib.hid hin2
      rw [← HL.out] at HO
      have HL2 := Lib.hid HL.out
      go_wp2_with fail
      go_ret2
      exact ⟨A1, c', (show Ending.returned (.tuple #[.slice A1 m c', .int .i64 0]) = _ by rw [HL2.out]), HO.out, HB.out⟩

/-- what both of Both say of lists that have nothing in common to be told -/
theorem slErrI_nil (w w' : World) (h : Below w.heap.size w w') (er : Int) : SlErrI w [] er (.returned (.tuple #[.slice none 0 0, .int .i64 er])) w' := ⟨none, 0, rfl, World.ownsRow_nil _ _ _ 1, h⟩
set_option maxRecDepth 100000 in
theorem both_bad (A : Option Addr) (n c : Nat) (xss : List (List Int)) (w : World) (h : RowsI w w.heap.size A n xss) (hn : n < 4294967296) (hs : Short xss) (hb : allSets xss = false ∨ n = 0) :
    Calls Try.prog 12 #[.slice A n c] w (SlErrI w [] 13) := by
  have BG := Lib.hid (begin_any A n c xss w h hn hs)
  have hl := h.len
  unfold BegRet at BG
  cases ha : allSets xss
  · simp only [ha, Bool.false_eq_true, if_false] at BG
    clear h hs hb hl ha
    go_enter Try.func12, Try.ntmps12
    go_wp2_with fail
    refine BG.out.mono ?_; rintro e w1 ⟨rfl, hB1⟩
    replace hB1 := Lib.hid hB1
    go_wp2_with fail
    go_ret2
    exact slErrI_nil w _ hB1.out 13
  · have hn0 : n = 0 := by
      rcases hb with h1 | h1
      · rw [ha] at h1; cases h1
      · exact h1
    subst hn0
    simp only [ha, if_true, hl] at BG
    clear h hs hb hl ha
    go_enter Try.func12, Try.ntmps12
    go_wp2_with fail
    refine BG.out.mono ?_; rintro e w1 ⟨Ap, cp, gs, rfl, hop, hw1, hB1⟩
    replace hB1 := Lib.hid hB1
    clear hop hw1
    go_wp2_with fail
    go_ret2
    exact slErrI_nil w _ hB1.out 13
set_option maxRecDepth 100000 in
theorem refBoth_bad (A : Option Addr) (n c : Nat) (xss : List (List Int)) (w : World) (h : RowsI w w.heap.size A n xss) (hn : n < 4294967296) (hs : Short xss) (hb : allSets xss = false ∨ n = 0) :
    Calls Try.prog 13 #[.slice A n c] w (SlErrI w [] 13) := by
  rcases Nat.eq_zero_or_pos n with h0 | h0
  · subst h0
    clear h hs hb
    go_enter Try.func13, Try.ntmps13
    go_wp2_with fail
    go_ret2
    exact slErrI_nil w _ (Below.refl _ _) 13
  · have ha : allSets xss = false := by
      rcases hb with h1 | h1
      · exact h1
      · omega
    have AL := Lib.hid (refAll_any A n c w.heap.size xss w h hn hs)
    rw [ha] at AL
    have hne : ((n : Int) == 0) = false := by rw [beq_eq_false_iff_ne]; omega
    clear h hs hb ha
    go_enter Try.func13, Try.ntmps13
    go_wp2_with fail
    refine AL.out.mono ?_; rintro e w1 ⟨rfl, hD1⟩
    replace hD1 := Lib.hid (hD1.below w.heap.size)
    go_wp2_with fail
    go_ret2
    exact slErrI_nil w _ hD1.out 13
end Go.Proofs.Ytpgnaahfkcgflaa
