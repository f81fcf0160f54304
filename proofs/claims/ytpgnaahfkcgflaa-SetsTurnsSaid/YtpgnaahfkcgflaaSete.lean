/-
  What none of the others has: walked.
-/
import Derived.Test.YtpgnaahfkcgflaaSetk
namespace Go.Proofs.Ytpgnaahfkcgflaa
set_option linter.unusedSimpArgs false
set_option linter.unusedVariables false
open Go.RowKit

/-- only the blocks gs may have turned -/
structure TurnS (gs : List Nat) (w w' : World) : Prop where
  os : w'.os = w.os
  tape : w'.tape = w.tape
  output : w'.output = w.output
  size : w'.heap.size = w.heap.size
  block : ∀ k, k ∉ gs → w'.heap[k]? = w.heap[k]?
theorem TurnS.refl (gs : List Nat) (w : World) : TurnS gs w w := ⟨rfl, rfl, rfl, rfl, fun _ _ => rfl⟩
theorem TurnS.step {gs : List Nat} {g : Nat} {a b c : World} (h : TurnS gs a b) (k : Turn g b c) (hg : g ∈ gs) : TurnS gs a c :=
  ⟨k.os.trans h.os, k.tape.trans h.tape, k.output.trans h.output, k.size.trans h.size, fun j hj => (k.block j (fun e => hj (e ▸ hg))).trans (h.block j hj)⟩
theorem TurnS.below {gs : List Nat} {B : Nat} {a w w' : World} (h : TurnS gs w w') (hb : Below B a w) (hg : ∀ g ∈ gs, B ≤ g) : Below B a w' :=
  hb.trans ⟨h.os, h.tape, h.output, by rw [h.size]; exact Nat.le_refl _, fun k hk => h.block k (fun hm => by have := hg k hm; omega)⟩
theorem TurnS.cell {gs : List Nat} {w w' : World} (h : TurnS gs w w') {p : Addr} (hp : p.block ∉ gs) : w'.cell? p = w.cell? p := World.cell?_of_block (h.block p.block hp)
/-- no walk's block is of another type -/
theorem Wks.not_mem {W : World} {B b : Nat} {gs : List Nat} {xss : List (List Int)} {z : Int} {t : TypeId} {cs : Array Value} (h : Wks W B gs xss z) (hb : Blk W b t cs) (hne : t ≠ 57) : b ∉ gs := fun hm => by
  obtain ⟨i, hi, rfl⟩ := List.getElem_of_mem hm
  obtain ⟨xs, hx⟩ : ∃ xs, xss[i]? = some xs := ⟨xss[i]'(by rw [← h.len]; exact hi), List.getElem?_eq_getElem _⟩
  obtain ⟨A, n, c, a, h1, _⟩ := h.wk i hi xs hx
  exact hb.ne_ h1 hne rfl
theorem TurnS.own {gs : List Nat} {w w' : World} {B base n c : Nat} {xss : List (List Int)} {z : Int} {A : Option Addr} {e : TypeId} {xs : List Value} (hT : TurnS gs w w') (hW : Wks w B gs xss z) (h : w.ownsRow base e 1 (.slice A n c) n xs) (hne : e ≠ 57) : w'.ownsRow base e 1 (.slice A n c) n xs :=
  own_keep h fun a ha => by
    obtain ⟨cs, hc, _⟩ := own_at h a ha
    exact hT.block _ (hW.not_mem hc hne)
theorem TurnS.blk {gs : List Nat} {w w' : World} {B b : Nat} {xss : List (List Int)} {z : Int} {t : TypeId} {cs : Array Value} (hT : TurnS gs w w') (hW : Wks w B gs xss z) (h : Blk w b t cs) (hne : t ≠ 57) : Blk w' b t cs := (hT.block _ (hW.not_mem h hne)).trans h

/-- does one of them have it? -/
def inAny (xss : List (List Int)) (x : Int) : Bool := xss.any fun l => decide (x ∈ l)
theorem inAny_take (xss : List (List Int)) (x : Int) (t : Nat) (l : List Int) (h : xss[t]? = some l) : inAny (xss.take (t + 1)) x = (inAny (xss.take t) x || decide (x ∈ l)) := by
  obtain ⟨hj, e⟩ := List.getElem?_eq_some_iff.1 h
  unfold inAny
  rw [List.take_succ_eq_append_getElem hj, List.any_append, e]
  simp
theorem inAny_yes (xss : List (List Int)) (x : Int) (t : Nat) (l : List Int) (h : xss[t]? = some l) (hm : x ∈ l) : inAny xss x = true := by
  unfold inAny
  rw [List.any_eq_true]
  exact ⟨l, List.mem_of_getElem? h, by simpa using hm⟩

set_option maxRecDepth 100000 in
theorem less1_any (g p : Nat) (A : Option Addr) (n c a B : Nat) (xs : List Int) (x : Int) (w : World) (hp : w.cell? ⟨p, 0, none⟩ = some (.int .i64 x)) (hb : Blk w g 57 #[.slice A n c, .int .i64 (a : Nat)]) (h : Reads w B 1 A n (xs.map I64)) (hBg : B ≤ g)
    (hs : ∀ i j (hj : j < xs.length) (hij : i < j), xs[i] < xs[j]) (ha : ∀ j (h : j < xs.length), j < a → xs[j] < x) (han : a ≤ n) (hnc : n ≤ c) (hn : n < 4294967296) :
    Calls Try.prog 33 #[.pointer (some ⟨g, 0, none⟩), .pointer (some ⟨p, 0, none⟩)] w fun e w' => e = .returned (.bool (decide (x ∈ xs))) ∧ Turn g w w' ∧ Blk w' g 57 #[.slice A n c, .int .i64 (Setp.low x xs : Nat)] := by
  have HS := Lib.hid (has_any g 57 A n c a B xs x w hb h hBg hs ha han hnc hn)
  clear hb h hBg hs ha han hnc hn
  go_enter Try.func33, Try.ntmps33
  go_wp2_with fail
  refine HS.out.mono ?_; rintro e w1 ⟨rfl, hT, hB⟩
  replace hT := Lib.hid hT; replace hB := Lib.hid hB
  go_wp2_with fail
  go_ret
  exact ⟨rfl, hT.out, hB.out⟩

set_option maxRecDepth 100000 in
set_option maxHeartbeats 4000000 in
theorem indexFunc_any (p : Nat) (Ap : Option Addr) (n cp B : Nat) (gs : List Nat) (xss : List (List Int)) (x : Int) (w : World) (base : Nat) (hp : Blk w p 3 #[.int .i64 x]) (hop : w.ownsRow base 45 1 (.slice Ap n cp) n (gs.map ptr)) (hW : Wks w B gs xss x) (hxl : xss.length = n) (ha : allSets xss = true) (hs : Short xss) (hn : n < 4294967296) :
    Calls Try.prog 39 #[.slice Ap n cp, .func (.func 33) #[] #[.pointer (some ⟨p, 0, none⟩)]] w fun e w' => ∃ v : Int, e = .returned (.int .i64 v) ∧ decide (0 ≤ v) = inAny xss x ∧ TurnS gs w w' ∧ Wks w' B gs xss x := by
  have hgl : gs.length = n := by rw [hW.len, hxl]
  have ALL : Hid (∀ (t : Nat), t < n → ∃ xs, xss[t]? = some xs ∧ (∀ i j (hj : j < xs.length) (hij : i < j), xs[i] < xs[j]) ∧ xs.length < 4294967296) := fun t ht => by
    have hx : xss[t]? = some (xss[t]'(by omega)) := List.getElem?_eq_getElem _
    exact ⟨_, hx, Setp.may_rising (all_at ha hx), hs _ (List.mem_of_getElem? hx)⟩
  have KEEP : Hid (∀ W, TurnS gs w W → W.cell? ⟨p, 0, none⟩ = some (.int .i64 x) ∧ W.ownsRow base 45 1 (.slice Ap n cp) n (gs.map ptr)) := fun W hT => ⟨(hT.blk hW hp (by decide)).cell 0, hT.own hW hop (by decide)⟩
  have HW := Lib.hid hW
  have GL := Lib.hid hgl
  have XL := Lib.hid hxl
  clear hp hop hW hgl ha hs hxl
  go_enter Try.func39, Try.ntmps39
  go_wp2_with fail
  go_loopw [8] (fun v8 wr => ∃ (t : Nat), v8 = .int .i64 t ∧ t ≤ n ∧ Hid (inAny (xss.take t) x = false) ∧ Hid (TurnS gs w wr) ∧ Hid (Wks wr B gs xss x)) (fun v8 _ => n - (intOf v8).toNat)
  case atStart => exact ⟨0, rfl, by omega, rfl, TurnS.refl _ _, HW⟩
  case round =>
    obtain ⟨t, rfl, htn, HN, HT, HWr⟩ := hrel
    by_cases htl : t < n
    · have htl' : (t : Int) < (n : Int) := by omega
      have htg : t < gs.length := by rw [GL.out]; omega
      obtain ⟨xs, hxt, hris, hsh⟩ := ALL.out t htl
      obtain ⟨hpc, hown⟩ := KEEP.out wr HT.out
      obtain ⟨Ax, nx, cx, ax, hbx, hrx, hncx, hax, hlow⟩ := HWr.out.wk t htg xs hxt
      have hlx : xs.length = nx := by have := hrx.1; simpa using this
      have hgB := HWr.out.low _ (List.getElem_mem htg)
      obtain ⟨adp, u, hAp, _, hu, ct⟩ := (Reads.of_own hown).at_ htl
      rw [List.getElem?_map, List.getElem?_eq_getElem htg] at hu
      simp only [Option.map_some, Option.some.injEq] at hu
      subst hu
      have HS2 := Lib.hid (less1_any gs[t] p Ax nx cx ax B xs x wr hpc hbx hrx hgB hris hlow hax hncx (by omega))
      have HTK := Lib.hid (fun (W : World) (hT : Turn gs[t] wr W) (hb : Blk W gs[t] 57 #[.slice Ax nx cx, .int .i64 (Setp.low x xs : Nat)]) => (⟨HWr.out.has htg hxt hT hb hrx hncx, HT.out.step hT (List.getElem_mem htg)⟩ : Wks W B gs xss x ∧ TurnS gs w W))
      have IT := Lib.hid (inAny_take xss x t xs hxt)
      have IY := Lib.hid (fun hm => inAny_yes xss x t xs hxt hm)
      unfold ptr at ct
      subst hAp
      clear hbx hrx hris hlow hlx hsh hxt hown hpc
      generalize gs[t] = g at *
      go_wp2_with fail
      refine HS2.out.mono ?_; rintro e w2 ⟨rfl, hT2, hb2⟩
      obtain ⟨hW2, hTT2⟩ := HTK.out w2 hT2 hb2
      replace hW2 := Lib.hid hW2; replace hTT2 := Lib.hid hTT2
      clear hT2 hb2 HTK HS2 ct
      by_cases hmem : x ∈ xs
      · have hd : decide (x ∈ xs) = true := by simpa using hmem
        have HY : Hid (inAny xss x = true) := IY.out hmem
        rw [hd]
        clear hmem hd
        go_wp2_with fail
        go_ret
        exact ⟨t, rfl, by rw [HY.out]; simp, hTT2.out, hW2.out⟩
      · have hd : decide (x ∈ xs) = false := by simpa using hmem
        have HN2 : Hid (inAny (xss.take (t + 1)) x = false) := by rw [Hid, IT.out, HN.out, hd]; rfl
        rw [hd]
        clear hmem hd
        go_wp2_with fail
        go_roundw
        case rel => exact ⟨t + 1, by go_num, by omega, HN2, hTT2, hW2⟩
        case measure => simp [intOf]; omega
    · have hge : (n : Int) ≤ t := by omega
      have HE : Hid (inAny xss x = false) := by
        have := HN.out
        rwa [List.take_of_length_le (by rw [XL.out]; omega)] at this
      go_wp2_with fail
      go_ret
      exact ⟨-1, rfl, by rw [HE.out]; rfl, HT.out, HWr.out⟩
set_option maxRecDepth 100000 in
theorem contains_any (p : Nat) (Ap : Option Addr) (n cp B : Nat) (gs : List Nat) (xss : List (List Int)) (x : Int) (w : World) (base : Nat) (hp : Blk w p 3 #[.int .i64 x]) (hop : w.ownsRow base 45 1 (.slice Ap n cp) n (gs.map ptr)) (hW : Wks w B gs xss x) (hxl : xss.length = n) (ha : allSets xss = true) (hs : Short xss) (hn : n < 4294967296) :
    Calls Try.prog 32 #[.slice Ap n cp, .func (.func 33) #[] #[.pointer (some ⟨p, 0, none⟩)]] w fun e w' => e = .returned (.bool (inAny xss x)) ∧ TurnS gs w w' ∧ Wks w' B gs xss x := by
  have IX := Lib.hid (indexFunc_any p Ap n cp B gs xss x w base hp hop hW hxl ha hs hn)
  clear hp hop hW hxl ha hs
  go_enter Try.func32, Try.ntmps32
  go_wp2_with fail
  refine IX.out.mono ?_; rintro e w1 ⟨v, rfl, hv, hT, hW⟩
  replace hv := Lib.hid hv; replace hT := Lib.hid hT; replace hW := Lib.hid hW
  go_wp2_with fail
  go_ret
  exact ⟨ret_bool (by rw [← hv.out]), hT.out, hW.out⟩
end Go.Proofs.Ytpgnaahfkcgflaa
