/-
  What all lists have: the document's, walked.
-/
import Derived.Test.YtpgnaahfkcgflaaSetr
namespace Go.Proofs.Ytpgnaahfkcgflaa
set_option linter.unusedSimpArgs false
set_option linter.unusedVariables false
open Go.RowKit

/-- numbers of the call's own and an error -/
def SlErrI (w : World) (r : List Int) (er : Int) (e : Ending) (w' : World) : Prop := ∃ A c, e = .returned (.tuple #[.slice A r.length c, .int .i64 er]) ∧ Fresh w w' 3 A r.length c (r.map I64)
theorem own_belowI {w w' : World} {base n c : Nat} {e : TypeId} {A : Option Addr} {xs : List Value} (h : w.ownsRow base e 1 (.slice A n c) n xs) (hk : Below w.heap.size w w') : w'.ownsRow base e 1 (.slice A n c) n xs := own_below h hk
/-- in all the others? -/
def inAll (rest : List (List Int)) (x : Int) : Bool := rest.all fun l => decide (x ∈ l)
theorem inAll_step (xss : List (List Int)) (x : Int) (k : Nat) (l : List Int) (h : xss[k]? = some l) (hk : 1 ≤ k) : inAll ((xss.drop 1).take k) x = (inAll ((xss.drop 1).take (k - 1)) x && decide (x ∈ l)) := by
  obtain ⟨j, rfl⟩ : ∃ j, k = j + 1 := ⟨k - 1, by omega⟩
  have h2 : (xss.drop 1)[j]? = some l := by rw [List.getElem?_drop, Nat.add_comm]; exact h
  obtain ⟨hj, e⟩ := List.getElem?_eq_some_iff.1 h2
  unfold inAll
  rw [List.take_succ_eq_append_getElem hj, List.all_append, e, Nat.add_sub_cancel]
  simp
theorem filter_step (l : List Int) (p : Int → Bool) (i : Nat) (x : Int) (h : l[i]? = some x) : (l.take (i + 1)).filter p = (l.take i).filter p ++ (if p x = true then [x] else []) := by
  obtain ⟨hi, e⟩ := List.getElem?_eq_some_iff.1 h
  rw [List.take_succ_eq_append_getElem hi, List.filter_append, e]
  by_cases hp : p x = true
  · rw [if_pos hp]; simp [hp]
  · rw [if_neg hp]; simp [hp]

set_option maxRecDepth 100000 in
set_option maxHeartbeats 8000000 in
theorem refBoth_in (A : Option Addr) (n c : Nat) (xss : List (List Int)) (w : World) (h : RowsI w w.heap.size A n xss) (hn : n < 4294967296) (hn0 : 0 < n) (hs : Short xss) (ha : allSets xss = true) :
    Calls Try.prog 13 #[.slice A n c] w (SlErrI w ((xss.headD []).filter (inAll (xss.drop 1))) 0) := by
  have hl := h.len
  obtain ⟨ad, l0, A0, n0, c0, rfl, hbl, hx0, c00, hnc0, hcm0, hread0⟩ := h.row hn0
  have hl0 : l0.length = n0 := by have := hread0.1; simpa using this
  have hn0b : n0 < 4294967296 := by have := hs l0 (List.mem_of_getElem? hx0); omega
  have hhd : xss.headD [] = l0 := by
    cases xss with
    | nil => simp at hx0
    | cons a t => simpa using hx0
  rw [hhd]
  obtain ⟨F, hF⟩ : ∃ F : Nat → List Int, F = fun i => (l0.take i).filter (inAll (xss.drop 1)) := ⟨_, rfl⟩
  have F0 : Hid (F 0 = []) := by rw [hF]; rfl
  have Fe : Hid (l0.filter (inAll (xss.drop 1)) = F n0) := by rw [hF, ← hl0]; simp [Hid]
  have Fs : Hid (∀ i x, l0[i]? = some x → F (i + 1) = F i ++ (if inAll (xss.drop 1) x = true then [x] else [])) := fun i x hx => by rw [hF]; exact filter_step l0 _ i x hx
  have Fl : Hid (∀ i, (F i).length ≤ i) := fun i => by
    rw [hF]
    exact Nat.le_trans (List.length_filter_le _ _) (List.length_take_le _ _)
  have IA : Hid (∀ x k l, xss[k]? = some l → 1 ≤ k → inAll ((xss.drop 1).take k) x = (inAll ((xss.drop 1).take (k - 1)) x && decide (x ∈ l))) := fun x k l hx hk => inAll_step xss x k l hx hk
  have IE : Hid (∀ x, inAll ((xss.drop 1).take (n - 1)) x = inAll (xss.drop 1) x) := fun x => by rw [List.take_of_length_le (by rw [List.length_drop]; omega)]
  have AL := Lib.hid (fun W hW => refAll_any (some ad) n c w.heap.size xss W hW hn hs)
  rw [ha] at AL
  have HS := Lib.hid (fun (W : World) (hW : Below w.heap.size w W) (k : Nat) (hk : k < n) => (h.below hW).row hk)
  have HS0 := Lib.hid (fun (W : World) (hW : Below w.heap.size w W) => hread0.below hW)
  have SH := Lib.hid hs
  have H := Lib.hid h
  have HX0 := Lib.hid hx0
  have L0 := Lib.hid hl0
  rw [Fe.out]
  have hne : ((n : Int) == 0) = false := by rw [beq_eq_false_iff_ne]; omega
  obtain ⟨i0, hi, hz0, hz1, hz2⟩ := info_parts info_int
  replace hi := Lib.hid hi; replace hz0 := Lib.hid hz0; replace hz1 := Lib.hid hz1; replace hz2 := Lib.hid hz2
  clear h hl hread0 hl0 hx0 hhd hF ha hs
  have C0 : Hid (∀ W, Below w.heap.size w W → W.cell? ad = some (.slice A0 n0 c0)) := fun W hW => (hW.cell hbl).trans (by simpa [Addr.add] using c00)
  clear c00 hbl
  go_enter Try.func13, Try.ntmps13
  go_wp2_with fail
  refine (AL.out _ H.out).mono ?_; rintro e w1 ⟨rfl, hD1⟩
  replace hD1 := Lib.hid (hD1.below w.heap.size)
  go_wp2_with fail
  clear AL
  go_loopw [4, 5] (fun v4 v5 wr => ∃ (i c' m : Nat) (A1 : Option Addr), v4 = .slice A1 m c' ∧ v5 = .int .i64 i ∧ i ≤ n0 ∧ m ≤ i ∧ Hid (Below w.heap.size w wr) ∧ Hid ((F i).length = m) ∧ Hid (wr.ownsRow w.heap.size 3 1 (.slice A1 m c') m ((F i).map I64))) (fun _ v5 _ => n0 - (intOf v5).toNat)
  case atStart => exact ⟨0, 0, 0, none, rfl, rfl, by omega, by omega, hD1, (by rw [F0.out]; rfl), (by rw [F0.out]; exact World.ownsRow_nil _ _ _ 1)⟩
  case round =>
    clear hD1
    obtain ⟨i, c', m, A1, rfl, rfl, hin, hmi, HB, HL, HO⟩ := hrel
    have c0w := C0.out wr HB.out
    by_cases hlt : i < n0
    · have hlt' : (i : Int) < n0 := by omega
      obtain ⟨ad0, hA0, hcell⟩ := ints_cells (HS0.out wr HB.out) (by omega)
      subst hA0
      have hix : i < l0.length := by rw [L0.out]; exact hlt
      have HX : Hid (l0[i]? = some l0[i]) := List.getElem?_eq_getElem hix
      have CX : Hid (∀ W, Below w.heap.size w W → W.cell? (ad0.add i) = some (.int .i64 l0[i])) := fun W hW => by
        obtain ⟨ad1, hA1, hcell1⟩ := ints_cells (HS0.out W hW) (by omega)
        injection hA1 with hA1
        subst hA1
        exact hcell1 i hix
      clear hcell
      generalize l0[i] = x at *
      have FS := Lib.hid (Fs.out i x HX.out)
      go_wp2_with fail
      go_loopw [6, 7] (fun v6 v7 wr => ∃ (k : Nat), v6 = .bool (inAll ((xss.drop 1).take (k - 1)) x) ∧ v7 = .int .i64 k ∧ 1 ≤ k ∧ k ≤ n ∧ Hid (Below w.heap.size w wr) ∧ Hid (wr.ownsRow w.heap.size 3 1 (.slice A1 m c') m ((F i).map I64))) (fun _ v7 _ => n - (intOf v7).toNat)
      case atStart => exact ⟨1, rfl, rfl, by omega, by omega, HB, HO⟩
      case round =>
        clear HB HO c0w
        obtain ⟨k, rfl, rfl, hk1, hkn, HB, HO⟩ := hrel
        by_cases hkl : k < n
        · have hkl' : (k : Int) < n := by omega
          obtain ⟨ad', xs, Ak, nk, ck, e1, _, hxk, ckw, h1, h2, hreadk⟩ := HS.out wr HB.out k hkl
          injection e1 with e1
          subst e1
          have IAk := Lib.hid (IA.out x k xs hxk hk1)
          have hnk : xs.length = nk := by have := hreadk.1; simpa using this
          have RH := Lib.hid (fun W hW => refHas_any Ak nk ck w.heap.size xs x W hW (by have := SH.out xs (List.mem_of_getElem? hxk); omega))
          have c0w := C0.out wr HB.out
          have cxw := CX.out wr HB.out
          replace hreadk := Lib.hid hreadk
          clear h1 h2 hxk hnk
          cases hb : inAll ((xss.drop 1).take (k - 1)) x
          · have Hnew : Hid (inAll ((xss.drop 1).take (k + 1 - 1)) x = false) := by rw [Hid, Nat.add_sub_cancel, IAk.out, hb]; rfl
            clear hb
            go_wp2_with fail
            refine region_E 15 (fun W => True) (by kernel_rfl) trivial (fun hHeld => ?_)
            refine took 0 (v := ?_) rfl (by kernel_rfl) (by kernel_rfl) (by kernel_rfl) (by kernel_rfl) (fun _ _ _ h => h) (by rfl) (by assumption) ?_ ?_
            rotate_left
            · (intro W hSw; (try dsimp only at hSw); go_simp; first | done | with_reducible rfl)
            try simp only [Act.put, List.setIfInBounds_toArray, List.set_cons_zero, List.set_cons_succ]
            refine took 1 (v := ?_) rfl (by kernel_rfl) (by kernel_rfl) (by kernel_rfl) (by kernel_rfl) (fun _ _ _ h => h) (by rfl) (by assumption) ?_ ?_
            rotate_left
            · (intro W hSw; (try dsimp only at hSw); go_simp; first | done | with_reducible rfl)
            try simp only [Act.put, List.setIfInBounds_toArray, List.set_cons_zero, List.set_cons_succ]
            refine passed 2 rfl (by kernel_rfl) (by kernel_rfl) (by kernel_rfl) (by kernel_rfl) (fun _ _ _ h => h) (by rfl) (by assumption) ?_
            try simp only [Act.put, List.setIfInBounds_toArray, List.set_cons_zero, List.set_cons_succ]
            refine passed 3 rfl (by kernel_rfl) (by kernel_rfl) (by kernel_rfl) (by kernel_rfl) (fun _ _ _ h => h) (by rfl) (by assumption) ?_
            try simp only [Act.put, List.setIfInBounds_toArray, List.set_cons_zero, List.set_cons_succ]
            refine passed 4 rfl (by kernel_rfl) (by kernel_rfl) (by kernel_rfl) (by kernel_rfl) (fun _ _ _ h => h) (by rfl) (by assumption) ?_
            try simp only [Act.put, List.setIfInBounds_toArray, List.set_cons_zero, List.set_cons_succ]
            refine passed 5 rfl (by kernel_rfl) (by kernel_rfl) (by kernel_rfl) (by kernel_rfl) (fun _ _ _ h => h) (by rfl) (by assumption) ?_
            try simp only [Act.put, List.setIfInBounds_toArray, List.set_cons_zero, List.set_cons_succ]
            refine passed 6 rfl (by kernel_rfl) (by kernel_rfl) (by kernel_rfl) (by kernel_rfl) (fun _ _ _ h => h) (by rfl) (by assumption) ?_
            try simp only [Act.put, List.setIfInBounds_toArray, List.set_cons_zero, List.set_cons_succ]
            refine passed 7 rfl (by kernel_rfl) (by kernel_rfl) (by kernel_rfl) (by kernel_rfl) (fun _ _ _ h => h) (by rfl) (by assumption) ?_
            try simp only [Act.put, List.setIfInBounds_toArray, List.set_cons_zero, List.set_cons_succ]
            refine passed 8 rfl (by kernel_rfl) (by kernel_rfl) (by kernel_rfl) (by kernel_rfl) (fun _ _ _ h => h) (by rfl) (by assumption) ?_
            try simp only [Act.put, List.setIfInBounds_toArray, List.set_cons_zero, List.set_cons_succ]
            refine passed 9 rfl (by kernel_rfl) (by kernel_rfl) (by kernel_rfl) (by kernel_rfl) (fun _ _ _ h => h) (by rfl) (by assumption) ?_
            try simp only [Act.put, List.setIfInBounds_toArray, List.set_cons_zero, List.set_cons_succ]
            refine passed 10 rfl (by kernel_rfl) (by kernel_rfl) (by kernel_rfl) (by kernel_rfl) (fun _ _ _ h => h) (by rfl) (by assumption) ?_
            try simp only [Act.put, List.setIfInBounds_toArray, List.set_cons_zero, List.set_cons_succ]
            refine passed 11 rfl (by kernel_rfl) (by kernel_rfl) (by kernel_rfl) (by kernel_rfl) (fun _ _ _ h => h) (by rfl) (by assumption) ?_
            try simp only [Act.put, List.setIfInBounds_toArray, List.set_cons_zero, List.set_cons_succ]
            refine passed 12 rfl (by kernel_rfl) (by kernel_rfl) (by kernel_rfl) (by kernel_rfl) (fun _ _ _ h => h) (by rfl) (by assumption) ?_
            try simp only [Act.put, List.setIfInBounds_toArray, List.set_cons_zero, List.set_cons_succ]
            refine took 13 (v := ?_) rfl (by kernel_rfl) (by kernel_rfl) (by kernel_rfl) (by kernel_rfl) (fun _ _ _ h => h) (by rfl) (by assumption) ?_ ?_
            rotate_left
            · (intro W hSw; (try dsimp only at hSw); go_simp; first | done | with_reducible rfl)
            try simp only [Act.put, List.setIfInBounds_toArray, List.set_cons_zero, List.set_cons_succ]
            refine took 14 (v := ?_) rfl (by kernel_rfl) (by kernel_rfl) (by kernel_rfl) (by kernel_rfl) (fun _ _ _ h => h) (by rfl) (by assumption) ?_ ?_
            rotate_left
            · (intro W hSw; (try dsimp only at hSw); go_simp; first | done | with_reducible rfl)
            try simp only [Act.put, List.setIfInBounds_toArray, List.set_cons_zero, List.set_cons_succ]
            refine allDone (by kernel_rfl) ?_ _
            clear hHeld c0w cxw ckw
            go_wp2_with fail
            go_roundw
            case rel => exact ⟨k + 1, by rw [Hnew.out], by go_num, by omega, by omega, HB.out.drew, HO.out.drew⟩
            case measure => simp [intOf]; omega
          · have Hnew : Hid (inAll ((xss.drop 1).take (k + 1 - 1)) x = decide (x ∈ xs)) := by rw [Hid, Nat.add_sub_cancel, IAk.out, hb]; simp
            clear hb
            go_wp2_with fail
            refine region_E 15 (fun W => W.cell? ad = some (.slice (some ad0) n0 c0) ∧ W.cell? (ad0.add i) = some (.int .i64 x) ∧ W.cell? (ad.add k) = some (.slice Ak nk ck)) (by kernel_rfl) ⟨c0w, cxw, ckw⟩ (fun hHeld => ?_)
            refine took 0 (v := ?_) rfl (by kernel_rfl) (by kernel_rfl) (by kernel_rfl) (by kernel_rfl) (fun _ _ _ h => h) (by rfl) (by assumption) ?_ ?_
            rotate_left
            · (intro W hSw; (try dsimp only at hSw); go_simp; first | done | with_reducible rfl)
            try simp only [Act.put, List.setIfInBounds_toArray, List.set_cons_zero, List.set_cons_succ]
            refine took 1 (v := ?_) rfl (by kernel_rfl) (by kernel_rfl) (by kernel_rfl) (by kernel_rfl) (fun _ _ _ h => h) (by rfl) (by assumption) ?_ ?_
            rotate_left
            · (intro W hSw; (try dsimp only at hSw); go_simp; first | done | with_reducible rfl)
            try simp only [Act.put, List.setIfInBounds_toArray, List.set_cons_zero, List.set_cons_succ]
            refine took 2 (v := ?_) rfl (by kernel_rfl) (by kernel_rfl) (by kernel_rfl) (by kernel_rfl) (fun _ _ _ h => h) (by rfl) (by assumption) ?_ ?_
            rotate_left
            · (intro W hSw; (try dsimp only at hSw); go_simp; first | done | with_reducible rfl)
            try simp only [Act.put, List.setIfInBounds_toArray, List.set_cons_zero, List.set_cons_succ]
            refine took 3 (v := ?_) rfl (by kernel_rfl) (by kernel_rfl) (by kernel_rfl) (by kernel_rfl) (fun _ _ _ h => h) (by rfl) (by assumption) ?_ ?_
            rotate_left
            · (intro W hSw; (try dsimp only at hSw); go_simp; first | done | with_reducible rfl)
            try simp only [Act.put, List.setIfInBounds_toArray, List.set_cons_zero, List.set_cons_succ]
            refine took 4 (v := ?_) rfl (by kernel_rfl) (by kernel_rfl) (by kernel_rfl) (by kernel_rfl) (fun _ _ _ h => h) (by rfl) (by assumption) ?_ ?_
            rotate_left
            · (intro W hSw; (try dsimp only at hSw); go_simp; first | done | with_reducible rfl)
            try simp only [Act.put, List.setIfInBounds_toArray, List.set_cons_zero, List.set_cons_succ]
            refine took 5 (v := ?_) rfl (by kernel_rfl) (by kernel_rfl) (by kernel_rfl) (by kernel_rfl) (fun _ _ _ h => h) (by rfl) (by assumption) ?_ ?_
            rotate_left
            · (intro W hSw; (try dsimp only at hSw); go_simp; first | done | with_reducible rfl)
            try simp only [Act.put, List.setIfInBounds_toArray, List.set_cons_zero, List.set_cons_succ]
            refine took 6 (v := ?_) rfl (by kernel_rfl) (by kernel_rfl) (by kernel_rfl) (by kernel_rfl) (fun _ _ _ h => h) (by rfl) (by assumption) ?_ ?_
            rotate_left
            · (intro W hSw; (try dsimp only at hSw); go_simp; first | done | with_reducible rfl)
            try simp only [Act.put, List.setIfInBounds_toArray, List.set_cons_zero, List.set_cons_succ]
            refine took 7 (v := ?_) rfl (by kernel_rfl) (by kernel_rfl) (by kernel_rfl) (by kernel_rfl) (fun _ _ _ h => h) (by rfl) (by assumption) ?_ ?_
            rotate_left
            · (intro W hSw; (try dsimp only at hSw); go_simp; first | done | with_reducible rfl)
            try simp only [Act.put, List.setIfInBounds_toArray, List.set_cons_zero, List.set_cons_succ]
            refine took 8 (v := ?_) rfl (by kernel_rfl) (by kernel_rfl) (by kernel_rfl) (by kernel_rfl) (fun _ _ _ h => h) (by rfl) (by assumption) ?_ ?_
            rotate_left
            · (intro W hSw; (try dsimp only at hSw); go_simp; first | done | with_reducible rfl)
            try simp only [Act.put, List.setIfInBounds_toArray, List.set_cons_zero, List.set_cons_succ]
            refine took 9 (v := ?_) rfl (by kernel_rfl) (by kernel_rfl) (by kernel_rfl) (by kernel_rfl) (fun _ _ _ h => h) (by rfl) (by assumption) ?_ ?_
            rotate_left
            · (intro W hSw; (try dsimp only at hSw); go_simp; first | done | with_reducible rfl)
            try simp only [Act.put, List.setIfInBounds_toArray, List.set_cons_zero, List.set_cons_succ]
            refine took 10 (v := ?_) rfl (by kernel_rfl) (by kernel_rfl) (by kernel_rfl) (by kernel_rfl) (fun _ _ _ h => h) (by rfl) (by assumption) ?_ ?_
            rotate_left
            · (intro W hSw; (try dsimp only at hSw); go_simp; first | done | with_reducible rfl)
            try simp only [Act.put, List.setIfInBounds_toArray, List.set_cons_zero, List.set_cons_succ]
            refine took 11 (v := ?_) rfl (by kernel_rfl) (by kernel_rfl) (by kernel_rfl) (by kernel_rfl) (fun _ _ _ h => h) (by rfl) (by assumption) ?_ ?_
            rotate_left
            · (intro W hSw; (try dsimp only at hSw); go_simp; first | done | with_reducible rfl)
            try simp only [Act.put, List.setIfInBounds_toArray, List.set_cons_zero, List.set_cons_succ]
            refine carried 12 rfl (by kernel_rfl) (by rfl) (fun K hK => ?_)
            go_simp
            (go_at_call 25; ((with_reducible refine (RH.out _ hreadk.out.drew).mono ?_); rintro e w' ⟨rfl, rfl⟩))
            refine hK.out _ _ (hHeld) (fun hHeld => ?_)
            clear hK K
            try simp only [Act.put, List.setIfInBounds_toArray, List.set_cons_zero, List.set_cons_succ]
            refine took 13 (v := ?_) rfl (by kernel_rfl) (by kernel_rfl) (by kernel_rfl) (by kernel_rfl) (fun _ _ _ h => h) (by rfl) (by assumption) ?_ ?_
            rotate_left
            · (intro W hSw; (try dsimp only at hSw); go_simp; first | done | with_reducible rfl)
            try simp only [Act.put, List.setIfInBounds_toArray, List.set_cons_zero, List.set_cons_succ]
            refine took 14 (v := ?_) rfl (by kernel_rfl) (by kernel_rfl) (by kernel_rfl) (by kernel_rfl) (fun _ _ _ h => h) (by rfl) (by assumption) ?_ ?_
            rotate_left
            · (intro W hSw; (try dsimp only at hSw); go_simp; first | done | with_reducible rfl)
            try simp only [Act.put, List.setIfInBounds_toArray, List.set_cons_zero, List.set_cons_succ]
            refine allDone (by kernel_rfl) ?_ _
            clear hHeld c0w cxw ckw
            go_wp2_with fail
            go_roundw
            case rel => exact ⟨k + 1, by rw [Hnew.out], by go_num, by omega, by omega, HB.out.drew, HO.out.drew⟩
            case measure => simp [intOf]; omega
        · have hkn2 : k = n := by omega
          have hge : (n : Int) ≤ k := by omega
          have HE : Hid (inAll ((xss.drop 1).take (k - 1)) x = inAll (xss.drop 1) x) := by rw [hkn2]; exact IE.out x
          have c0w := C0.out wr HB.out
          have cxw := CX.out wr HB.out
          replace hkn2 := Lib.hid hkn2
          cases hb : inAll ((xss.drop 1).take (k - 1)) x
          · have Fi : Hid (F (i + 1) = F i) := by rw [Hid, FS.out, ← HE.out, hb]; simp
            clear hb
            go_wp2_with fail
            go_roundw
            case rel => exact ⟨i + 1, c', m, A1, rfl, by go_num, by omega, by omega, HB, (by rw [Fi.out]; exact HL), (by rw [Fi.out]; exact HO)⟩
            case measure => simp [intOf]; omega
          · have Fi : Hid (F (i + 1) = F i ++ [x]) := by rw [FS.out, ← HE.out, hb]; rfl
            clear hb
            have hgd : w.heap.size ≤ wr.heap.size := HB.out.size
            have hb1 : m + 1 ≤ maxLen := by unfold maxLen; omega
            have hb2 : (m + 1) * 8 ≤ 140737488355328 := by omega
            go_wp2_with (at_builtin; refine wpList_append_any _ rfl (.tmp 45) (.tmp 52) 25 rfl w.heap.size 3 i0 (.int .i64 0) 1 8 Try.underlying25 hi.out hz0.out hz1.out hz2.out rfl (by omega) A1 m c' _ rfl (HO.out.alloc (.cells #[.int .i64 x] 3)) (wr.heap.size + 1) _ 1 1 _ rfl (reads_one wr _ _) (one_one rfl) hb1 hb2 (show w.heap.size ≤ (wr.alloc (.cells #[.int .i64 x] 3)).heap.size from Nat.le_trans hgd (by simp)) ?_; intro A3 c3 w4 ho4 hg4 _hs4; have hB4 : Below w.heap.size w w4 := below_app (HB.out.alloc hgd (.cells #[.int .i64 x] 3)) hg4 (HO.out.alloc (.cells #[.int .i64 x] 3)) (show w.heap.size ≤ (wr.alloc (.cells #[.int .i64 x] 3)).heap.size from Nat.le_trans hgd (by simp)); replace ho4 := Lib.hid ho4; replace hB4 := Lib.hid hB4; clear hg4 _hs4)
            go_roundw
            case rel => exact ⟨i + 1, c3, m + 1, A3, rfl, by go_num, by omega, by omega, hB4, (by rw [Fi.out, List.length_append, HL.out]; rfl), (by rw [Fi.out, List.map_append]; exact ho4)⟩
            case measure => simp [intOf]; omega
    · have hge : (n0 : Int) ≤ i := by omega
      have hin2 : i = n0 := by omega
      rw [hin2] at HO HL
      replace hin2 := Lib.hid hin2
      rw [← HL.out] at HO
      have HL2 := Lib.hid HL.out
      go_wp2_with fail
      go_ret2
      exact ⟨A1, c', (show Ending.returned (.tuple #[.slice A1 m c', .int .i64 0]) = _ by rw [HL2.out]), HO.out, HB.out⟩
end Go.Proofs.Ytpgnaahfkcgflaa
