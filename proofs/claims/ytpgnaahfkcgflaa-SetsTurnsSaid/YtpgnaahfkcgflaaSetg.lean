/-
  Walks begun along lists: walked.
-/
import Derived.Test.YtpgnaahfkcgflaaSetb
namespace Go.Proofs.Ytpgnaahfkcgflaa
set_option linter.unusedSimpArgs false
set_option linter.unusedVariables false
open Go.RowKit

theorem own_at {w : World} {base n c : Nat} {A : Option Addr} {e : TypeId} {xs : List Value} (h : w.ownsRow base e 1 (.slice A n c) n xs) : ∀ a, A = some a → ∃ cs, Blk w a.block e cs ∧ base ≤ a.block := by
  intro a ha
  subst ha
  rcases h.2 with ⟨h0, _⟩ | ⟨g', _, cur, hv, hb, hc, _⟩
  · cases h0
  · injection hv with hv
    injection hv with hv
    subst hv
    exact ⟨cur, hc, hb⟩
theorem own_keep {w w' : World} {base n c : Nat} {A : Option Addr} {e : TypeId} {xs : List Value} (h : w.ownsRow base e 1 (.slice A n c) n xs) (hb : ∀ a, A = some a → w'.heap[a.block]? = w.heap[a.block]?) : w'.ownsRow base e 1 (.slice A n c) n xs := by
  refine ⟨h.1, h.2.imp id fun ⟨g, cap, cur, hv, hg, hc, r⟩ => ⟨g, cap, cur, hv, hg, ?_, r⟩⟩
  injection hv with hv
  exact (hb _ hv).trans hc
/-- a row of one type stays where a block of another type turns -/
theorem own_turn {w w' : World} {base n c g : Nat} {A : Option Addr} {e t : TypeId} {xs : List Value} {cs : Array Value} (h : w.ownsRow base e 1 (.slice A n c) n xs) (hT : Turn g w w') (hb : Blk w g t cs) (hne : e ≠ t) : w'.ownsRow base e 1 (.slice A n c) n xs :=
  own_keep h fun a ha => hT.block _ (by
    obtain ⟨cs', hc, _⟩ := own_at h a ha
    exact hc.ne_ hb hne)
/-- a row of one type stays where a row of another type grows -/
theorem own_grown {w w' : World} {base n c base' n' c' : Nat} {A A' : Option Addr} {e e' : TypeId} {xs ys : List Value} (h : w.ownsRow base e 1 (.slice A n c) n xs) (h' : w.ownsRow base' e' 1 (.slice A' n' c') n' ys) (hg : w.grownBy w' (A'.map (·.block))) (hne : e ≠ e') : w'.ownsRow base e 1 (.slice A n c) n xs :=
  own_keep h fun a ha => by
    obtain ⟨cs, hc, _⟩ := own_at h a ha
    refine hg.block _ hc.lt fun e1 => ?_
    cases A' with
    | none => cases e1
    | some a' =>
      obtain ⟨cs', hc', _⟩ := own_at h' a' rfl
      injection e1 with e1
      exact (hc.ne_ hc' hne) e1
/-- a block of one type stays where a row of another type grows -/
theorem blk_grown' {w w' : World} {g base' n' c' : Nat} {A' : Option Addr} {t e' : TypeId} {cs : Array Value} {ys : List Value} (h : Blk w g t cs) (h' : w.ownsRow base' e' 1 (.slice A' n' c') n' ys) (hg : w.grownBy w' (A'.map (·.block))) (hne : t ≠ e') : Blk w' g t cs := by
  refine h.grown hg fun e1 => ?_
  cases A' with
  | none => cases e1
  | some a' =>
    obtain ⟨cs', hc', _⟩ := own_at h' a' rfl
    injection e1 with e1
    exact (h.ne_ hc' hne) e1

/-- a walk along xs in block g: all before its place is below z -/
def Wk (W : World) (B g : Nat) (xs : List Int) (z : Int) : Prop :=
  ∃ (A : Option Addr) (n c a : Nat), Blk W g 57 #[.slice A n c, .int .i64 (a : Nat)] ∧ Reads W B 1 A n (xs.map I64) ∧ n ≤ c ∧ a ≤ n ∧ ∀ j (h : j < xs.length), j < a → xs[j] < z
theorem Wk.mono {W : World} {B g : Nat} {xs : List Int} {z z' : Int} (h : Wk W B g xs z) (hz : z ≤ z') : Wk W B g xs z' := by
  obtain ⟨A, n, c, a, h1, h2, h3, h4, h5⟩ := h
  exact ⟨A, n, c, a, h1, h2, h3, h4, fun j hj hja => by have := h5 j hj hja; omega⟩
theorem Wk.turn {W W' : World} {B g g' : Nat} {xs : List Int} {z : Int} (h : Wk W B g xs z) (hT : Turn g' W W') (hne : g ≠ g') (hB : B ≤ g') : Wk W' B g xs z := by
  obtain ⟨A, n, c, a, h1, h2, h3, h4, h5⟩ := h
  exact ⟨A, n, c, a, hT.blk h1 hne, hT.reads h2 hB, h3, h4, h5⟩
theorem Wk.drew {W : World} {B g : Nat} {xs : List Int} {z : Int} (h : Wk W B g xs z) : Wk W.drew B g xs z := h
theorem Wk.drewN {W : World} {B g : Nat} {xs : List Int} {z : Int} (h : Wk W B g xs z) (n : Nat) : Wk (W.drewN n) B g xs z := h
theorem Wk.below {W W' : World} {B g : Nat} {xs : List Int} {z : Int} (h : Wk W B g xs z) (hb : Below W.heap.size W W') (hB : B ≤ W.heap.size) : Wk W' B g xs z := by
  obtain ⟨A, n, c, a, h1, h2, h3, h4, h5⟩ := h
  exact ⟨A, n, c, a, h1.below hb h1.lt, h2.below (hb.mono hB), h3, h4, h5⟩
theorem Wk.grown {W W' : World} {B g base' n' c' : Nat} {A' : Option Addr} {e' : TypeId} {ys : List Value} {xs : List Int} {z : Int} (h : Wk W B g xs z) (h' : W.ownsRow base' e' 1 (.slice A' n' c') n' ys) (hg : W.grownBy W' (A'.map (·.block))) (hne : 57 ≠ e') (hB : B ≤ base') (hBs : B ≤ W.heap.size) : Wk W' B g xs z := by
  obtain ⟨A, n, c, a, h1, h2, h3, h4, h5⟩ := h
  refine ⟨A, n, c, a, blk_grown' h1 h' hg hne, h2.grown hg hBs (fun k hk => ?_), h3, h4, h5⟩
  cases A' with
  | none => cases hk
  | some a' =>
    obtain ⟨_, _, hb⟩ := own_at h' a' rfl
    have hk2 : a'.block = k := by simpa using hk
    omega
theorem Wk.lt {W : World} {B g : Nat} {xs : List Int} {z : Int} (h : Wk W B g xs z) : g < W.heap.size := by
  obtain ⟨A, n, c, a, h1, _⟩ := h
  exact h1.lt
/-- pointers to walks -/
def ptr (g : Nat) : Value := .pointer (some ⟨g, 0, none⟩)
/-- walks along the first lists, in blocks of their own from base on -/
structure Wks (W : World) (B : Nat) (gs : List Nat) (xss : List (List Int)) (z : Int) : Prop where
  len : gs.length = xss.length
  apart : ∀ i j (hi : i < gs.length) (hj : j < gs.length), gs[i] = gs[j] → i = j
  low : ∀ g ∈ gs, B ≤ g
  wk : ∀ i (hi : i < gs.length) xs, xss[i]? = some xs → Wk W B gs[i] xs z
theorem Wks.map {W W' : World} {B : Nat} {gs : List Nat} {xss : List (List Int)} {z z' : Int} (h : Wks W B gs xss z) (k : ∀ g xs, g ∈ gs → Wk W B g xs z → Wk W' B g xs z') : Wks W' B gs xss z' :=
  ⟨h.len, h.apart, h.low, fun i hi xs hx => k _ xs (List.getElem_mem hi) (h.wk i hi xs hx)⟩

set_option maxRecDepth 100000 in
theorem info_pset : (Try.prog.info? 45).map (fun i => (i.zero, i.size, i.bytes)) = some (some (.pointer none), 1, 8) := by kernel_rfl
/-- what begin says -/
def BegRet (w : World) (xss : List (List Int)) (e : Ending) (w' : World) : Prop :=
  if allSets xss = true then ∃ A c gs, e = .returned (.tuple #[.slice A xss.length c, .bool true]) ∧ w'.ownsRow w.heap.size 45 1 (.slice A xss.length c) xss.length (gs.map ptr) ∧ Wks w' w.heap.size gs xss 0 ∧ Below w.heap.size w w'
  else e = .returned (.tuple #[.slice none 0 0, .bool false]) ∧ Below w.heap.size w w'

theorem wk_new {w W : World} {B : Nat} {A : Option Addr} {n c : Nat} {xs : List Int} {z : Int} (h : Reads W B 1 A n (xs.map I64)) (hnc : n ≤ c) (hB : B ≤ W.heap.size) : Wk (W.alloc (.cells #[.slice A n c, .int .i64 0] 57)) B W.heap.size xs z :=
  ⟨A, n, c, 0, Blk.new W _ _, h.alloc hB _, hnc, by omega, fun j _ h => by omega⟩

/-- one walk more -/
theorem wks_more {wr w4 : World} {B k c' : Nat} {gs : List Nat} {xss : List (List Int)} {xs : List Int} {A1 : Option Addr} {o1 o2 : Obj} {ys : List Value} (hW : Wks wr B gs (xss.take k) 0) (hn : Wk (wr.alloc o1) B wr.heap.size xs 0) (hx : xss[k]? = some xs) (hB : B ≤ wr.heap.size)
    (hg : ((wr.alloc o1).alloc o2).grownBy w4 (A1.map (·.block))) (hO : ((wr.alloc o1).alloc o2).ownsRow B 45 1 (.slice A1 k c') k ys) : Wks w4 B (gs ++ [wr.heap.size]) (xss.take (k + 1)) 0 := by
  obtain ⟨hk, hxe⟩ := List.getElem?_eq_some_iff.1 hx
  have hlen : gs.length = k := by rw [hW.len, List.length_take]; omega
  have old : ∀ i (hi : i < gs.length), gs[i] < wr.heap.size := fun i hi => by
    have h2 := hW.wk i hi ((xss.take k)[i]'(by rw [← hW.len]; exact hi)) (List.getElem?_eq_getElem _)
    exact h2.lt
  have a1 : ∀ {g : Nat} {ys : List Int}, Wk wr B g ys 0 → Wk ((wr.alloc o1).alloc o2) B g ys 0 := fun h =>
    (h.below ((Below.refl _ _).alloc (Nat.le_refl _) o1) hB).below ((Below.refl _ _).alloc (Nat.le_refl _) o2) (by simp; omega)
  have a2 : Wk ((wr.alloc o1).alloc o2) B wr.heap.size xs 0 := hn.below ((Below.refl _ _).alloc (Nat.le_refl _) o2) (by simp; omega)
  have gr : ∀ {g : Nat} {ys : List Int}, Wk ((wr.alloc o1).alloc o2) B g ys 0 → Wk w4 B g ys 0 := fun h => h.grown hO hg (by decide) (Nat.le_refl _) (by simp; omega)
  refine ⟨by rw [List.length_append, hlen, List.length_take]; simp; omega, fun i j hi hj e => ?_, fun g hg' => ?_, fun i hi ys hys => ?_⟩
  · rw [List.length_append] at hi hj
    simp only [List.length_cons, List.length_nil] at hi hj
    rw [List.getElem_append, List.getElem_append] at e
    by_cases h1 : i < gs.length
    · by_cases h2 : j < gs.length
      · rw [dif_pos h1, dif_pos h2] at e; exact hW.apart i j h1 h2 e
      · rw [dif_pos h1, dif_neg h2] at e
        simp at e
        have := old i h1; omega
    · by_cases h2 : j < gs.length
      · rw [dif_neg h1, dif_pos h2] at e
        simp at e
        have := old j h2; omega
      · omega
  · rcases List.mem_append.1 hg' with h | h
    · exact hW.low g h
    · have := List.mem_singleton.1 h
      omega
  · rw [List.length_append] at hi
    simp only [List.length_cons, List.length_nil] at hi
    rw [List.getElem_append]
    rw [List.getElem?_take] at hys
    by_cases h1 : i < gs.length
    · rw [dif_pos h1]
      refine gr (a1 (hW.wk i h1 ys ?_))
      rw [List.getElem?_take, if_pos (by omega)]
      rw [if_pos (by omega)] at hys
      exact hys
    · rw [dif_neg h1]
      have hik : i = k := by omega
      rw [if_pos (by omega), hik, hx] at hys
      injection hys with hys
      subst hys
      simp only [List.getElem_singleton]
      exact gr a2

set_option maxRecDepth 100000 in
set_option maxHeartbeats 8000000 in
theorem begin_any (A : Option Addr) (n c : Nat) (xss : List (List Int)) (w : World) (h : RowsI w w.heap.size A n xss) (hn : n < 4294967296) (hs : Short xss) :
    Calls Try.prog 26 #[.slice A n c] w (BegRet w xss) := by
  have hl := h.len
  have H := Lib.hid h
  have L := Lib.hid hl
  have SH := Lib.hid hs
  have HS := Lib.hid (fun (W : World) (hW : Below w.heap.size w W) (k : Nat) (hk : k < n) => (h.below hW).row hk)
  have AS := Lib.hid (fun k xs hx => allSets_step xss k xs hx)
  obtain ⟨i0, hi, hz0, hz1, hz2⟩ := info_parts info_pset
  replace hi := Lib.hid hi; replace hz0 := Lib.hid hz0; replace hz1 := Lib.hid hz1; replace hz2 := Lib.hid hz2
  clear h hl hs
  go_enter Try.func26, Try.ntmps26
  go_wp2_with fail
  go_loopw [4, 9] (fun v4 v9 wr => ∃ (k c' : Nat) (A1 : Option Addr) (gs : List Nat), v4 = .slice A1 k c' ∧ v9 = .int .i64 k ∧ k ≤ n ∧ Hid (Below w.heap.size w wr) ∧ Hid (allSets (xss.drop k) = allSets xss) ∧ Hid (wr.ownsRow w.heap.size 45 1 (.slice A1 k c') k (gs.map ptr)) ∧ Hid (Wks wr w.heap.size gs (xss.take k) 0)) (fun _ v9 _ => n - (intOf v9).toNat)
  case atStart => exact ⟨0, 0, none, [], rfl, rfl, by omega, Below.refl _ _, rfl, World.ownsRow_nil _ _ _ 1, ⟨by simp, fun i j hi => by simp at hi, fun g hg => by simp at hg, fun i hi => by simp at hi⟩⟩
  case round =>
    obtain ⟨k, c', A1, gs, rfl, rfl, hkn, HB, HA, HO, HW⟩ := hrel
    by_cases hlt : k < n
    · have hlt' : (k : Int) < n := by omega
      obtain ⟨ad, xs, Ak, nk, ck, rfl, hbl, hxk, ckw, hnc, hcm, hreadk⟩ := HS.out wr HB.out k hlt
      have hnk : xs.length = nk := by have := hreadk.1; simpa using this
      have MA := Lib.hid (fun W hW => may_any Ak nk ck w.heap.size xs W hW (by have := SH.out xs (List.mem_of_getElem? hxk); omega))
      have HAS := Lib.hid (AS.out k xs hxk)
      have HX := Lib.hid hxk
      replace hreadk := Lib.hid hreadk
      clear hxk hnk
      go_wp2_with fail
      refine (MA.out _ hreadk.out).mono ?_; rintro e w1 ⟨rfl, rfl⟩
      cases hm : Setp.may xs
      · have Hf : Hid (¬ allSets xss = true) := by rw [Hid, ← HA.out, HAS.out, hm]; simp
        clear hm
        go_wp2_with fail
        go_ret2
        unfold BegRet
        rw [if_neg Hf.out]
        exact ⟨rfl, HB.out⟩
      · have Hf : Hid (allSets (xss.drop (k + 1)) = allSets xss) := by rw [← HA.out, HAS.out, hm]; rfl
        clear hm
        have hgd : w.heap.size ≤ wr.heap.size := HB.out.size
        have hb1 : k + 1 ≤ maxLen := by unfold maxLen; omega
        have hb2 : (k + 1) * 8 ≤ 140737488355328 := by omega
        have hwk := Lib.hid (wk_new (w := w) (z := 0) hreadk.out hnc hgd)
        have hr1 : Reads ((wr.alloc (.cells #[.slice Ak nk ck, .int .i64 0] 57)).alloc (.cells #[.pointer (some ⟨wr.heap.size, 0, none⟩)] 45)) (wr.heap.size + 1 + 1) 1 (some ⟨wr.heap.size + 1, 0, none⟩) 1 [.pointer (some ⟨wr.heap.size, 0, none⟩)] := by
          have h := reads_one (wr.alloc (.cells #[.slice Ak nk ck, .int .i64 0] 57)) (.pointer (some ⟨wr.heap.size, 0, none⟩)) 45
          simpa using h
        have hs2 : w.heap.size ≤ ((wr.alloc (.cells #[.slice Ak nk ck, .int .i64 0] 57)).alloc (.cells #[.pointer (some ⟨wr.heap.size, 0, none⟩)] 45)).heap.size := by simp; omega
        replace hr1 := Lib.hid hr1
        replace hs2 := Lib.hid hs2
        go_wp2_with (at_builtin; refine wpList_append_any _ rfl (.tmp 16) (.tmp 21) 42 rfl w.heap.size 45 i0 (.pointer none) 1 8 Try.underlying42 hi.out hz0.out hz1.out hz2.out rfl (by omega) A1 k c' _ rfl ((HO.out.alloc (.cells #[.slice Ak nk ck, .int .i64 0] 57)).alloc (.cells #[.pointer (some ⟨wr.heap.size, 0, none⟩)] 45)) (wr.heap.size + 1 + 1) _ 1 1 _ rfl hr1.out (one_one rfl) hb1 hb2 hs2.out ?_; intro A3 c3 w4 ho4 hg4 _hs4; have hown2 := (HO.out.alloc (.cells #[.slice Ak nk ck, .int .i64 0] 57)).alloc (.cells #[.pointer (some ⟨wr.heap.size, 0, none⟩)] 45); have hB4 : Below w.heap.size w w4 := below_app ((HB.out.alloc hgd (.cells #[.slice Ak nk ck, .int .i64 0] 57)).alloc (by simp; omega) (.cells #[.pointer (some ⟨wr.heap.size, 0, none⟩)] 45)) hg4 hown2 hs2.out; have hW4 : Wks w4 w.heap.size (gs ++ [wr.heap.size]) (xss.take (k + 1)) 0 := wks_more HW.out hwk.out HX.out hgd hg4 hown2; replace ho4 := Lib.hid ho4; replace hB4 := Lib.hid hB4; replace hW4 := Lib.hid hW4; clear hg4 _hs4 hown2)
        go_roundw
        case rel => exact ⟨k + 1, c3, A3, gs ++ [wr.heap.size], rfl, by go_num, by omega, hB4, Hf, (by rw [List.map_append]; exact ho4), hW4⟩
        case measure => simp [intOf]; omega
    · have hge : (n : Int) ≤ k := by omega
      have Hf : Hid (allSets xss = true) := by rw [← HA.out, List.drop_of_length_le (by rw [L.out]; omega)]; rfl
      have hkn2 : Hid (k = xss.length) := by rw [L.out]; unfold Hid; omega
      go_wp2_with fail
      go_ret2
      unfold BegRet
      rw [if_pos Hf.out, ← hkn2.out]
      have hw := HW.out
      rw [List.take_of_length_le (by rw [L.out]; omega)] at hw
      exact ⟨A1, c', gs, rfl, HO.out, hw, HB.out⟩
end Go.Proofs.Ytpgnaahfkcgflaa
