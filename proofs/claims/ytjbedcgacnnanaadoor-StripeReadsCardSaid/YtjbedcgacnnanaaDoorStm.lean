/-
  The reader of stripes in its box; part walked.
-/
import Derived.Test.YtjbedcgacnnanaaDoorStl
import Derived.Test.YtjbedcgacnnanaaDoorTcs
import Derived.Test.YtjbedcgacnnanaaDoorBa
namespace Go.Proofs.YtjbedcgacnnanaaDoor
set_option linter.unusedSimpArgs false
set_option linter.unusedVariables false
open Go.RowKit

/-- blocks of cells that are neither readers nor rows of ints stand as they stood -/
def KeepR (w w' : World) : Prop := ∀ (k : Nat) (t : TypeId) (cs : Array Value) (fr : Nat × Nat), w.heap[k]? = some (.cells cs t fr) → t ≠ 65 → t ≠ 3 → w'.heap[k]? = some (.cells cs t fr)
theorem KeepR.refl (w : World) : KeepR w w := fun _ _ _ _ h _ _ => h
theorem KeepR.trans {a b c : World} (h : KeepR a b) (h' : KeepR b c) : KeepR a c := fun k t cs fr hk h1 h2 => h' k t cs fr (h k t cs fr hk h1 h2) h1 h2
theorem KeepR.drew (w : World) : KeepR w w.drew := fun _ _ _ _ h _ _ => h
theorem KeepR.alloc (w : World) (o : Obj) : KeepR w (w.alloc o) := fun k _ _ _ hk _ _ => (heap_alloc_old w o (lt_of_heap hk)).trans hk
theorem KeepR.below {w w' : World} (h : Below w.heap.size w w') : KeepR w w' := fun k _ _ _ hk _ _ => (h.block k (lt_of_heap hk)).trans hk
theorem KeepR.setCell {w : World} {g : Nat} {cs : Array Value} {t : TypeId} {fr : Nat × Nat} (hg : w.heap[g]? = some (.cells cs t fr)) (ht : t = 65 ∨ t = 3) (j : Nat) (u : Value) : KeepR w (w.setCell ⟨g, j, none⟩ u) := fun k t' cs' fr' hk h1 h2 => by
  have hne : k ≠ g := by
    rintro rfl
    rw [hg] at hk
    injection hk with hk
    injection hk with _ hk
    subst hk
    rcases ht with ht | ht
    · exact h1 ht
    · exact h2 ht
  exact (Below.heap_setCell w ⟨g, j, none⟩ u k hne).trans hk
theorem KeepR.grown {w w' : World} {base n c : Nat} {A : Option Addr} {xs : List Value} (h : w.ownsRow base 3 1 (.slice A n c) n xs) (hg : w.grownBy w' (A.map (·.block))) : KeepR w w' := fun k t cs fr hk h1 h2 => by
  refine (hg.block k (lt_of_heap hk) fun e => ?_).trans hk
  obtain ⟨cs', fr', h3⟩ := own_row h k e.symm
  rw [hk] at h3
  injection h3 with h3
  injection h3 with _ h3
  exact h2 h3
theorem KeepR.own {w w' : World} {base size n c : Nat} {A : Option Addr} {E : TypeId} {xs : List Value} (hk : KeepR w w') (h : w.ownsRow base E size (.slice A n c) n xs) (h1 : E ≠ 65) (h2 : E ≠ 3) : w'.ownsRow base E size (.slice A n c) n xs :=
  ownsRow_block h fun a ha => by
    obtain ⟨cs, fr, hc⟩ := own_row h a.block (by rw [ha]; rfl)
    rw [hc]
    exact hk _ _ _ _ hc h1 h2
theorem KeepR.blk {w w' : World} {g : Nat} {t : TypeId} {cs : Array Value} (hk : KeepR w w') (h : Blk w g t cs) (h1 : t ≠ 65) (h2 : t ≠ 3) : Blk w' g t cs := hk _ _ _ _ h h1 h2
/-- the reader in its box -/
structure Rdr (W : World) (base g k m ch : Nat) (Ao : Option Addr) (no co : Nat) (Ab : Option Addr) (nb cb at_ : Nat) (out : List UInt8) (bd : List Nat) : Prop where
  blk : Blk W g 65 #[.int .i64 k, .int .i64 m, .int .i64 ch, .slice Ao no co, .slice Ab nb cb, .int .i64 at_]
  ge : base ≤ g
  oo : W.ownsRow base 5 1 (.slice Ao no co) no (out.map B8)
  ob : W.ownsRow base 3 1 (.slice Ab nb cb) nb (bd.map NV)
section
variable {W W' : World} {base g k m ch no co nb cb at_ : Nat} {Ao Ab : Option Addr} {out : List UInt8} {bd : List Nat}
theorem Rdr.below (h : Rdr W base g k m ch Ao no co Ab nb cb at_ out bd) (hB : Below W.heap.size W W') : Rdr W' base g k m ch Ao no co Ab nb cb at_ out bd :=
  ⟨h.blk.below hB h.blk.lt, h.ge, own_belowL h.oo hB, own_belowL h.ob hB⟩
theorem Rdr.drew (h : Rdr W base g k m ch Ao no co Ab nb cb at_ out bd) : Rdr W.drew base g k m ch Ao no co Ab nb cb at_ out bd := ⟨h.blk.drew, h.ge, h.oo.drew, h.ob.drew⟩
/-- a cell of the box turned: the rows stand -/
theorem own_rdr {E : TypeId} {size n c j : Nat} {A : Option Addr} {xs : List Value} {cs : Array Value} (h : W.ownsRow base E size (.slice A n c) n xs) (hb : Blk W g 65 cs) (hE : E ≠ 65) (u : Value) : (W.setCell ⟨g, j, none⟩ u).ownsRow base E size (.slice A n c) n xs :=
  ownsRow_block h fun a ha => by
    refine Below.heap_setCell W ⟨g, j, none⟩ u a.block (fun e => ?_)
    obtain ⟨cs', fr, hc⟩ := own_row h g (by rw [ha]; exact congrArg some e)
    have hb' : W.heap[g]? = some (.cells cs 65) := hb
    rw [hb'] at hc
    injection hc with hc
    injection hc with _ hc
    exact hE hc.symm
theorem blk_grownR {cs : Array Value} {n c b : Nat} {A : Option Addr} {E : TypeId} {size : Nat} {xs : List Value} (hb : Blk W g 65 cs) (h : W.ownsRow b E size (.slice A n c) n xs) (hE : E ≠ 65) (hg : W.grownBy W' (A.map (·.block))) : Blk W' g 65 cs :=
  hb.grown hg fun e => by
    obtain ⟨cs', fr, hc⟩ := own_row h g e.symm
    have hb' : W.heap[g]? = some (.cells cs 65) := hb
    rw [hb'] at hc
    injection hc with hc
    injection hc with _ hc
    exact hE hc.symm
/-- a row of another type stands while one grows -/
theorem own_grownT {E E' : TypeId} {size size' n c n' c' b b' : Nat} {A A' : Option Addr} {xs ys : List Value} (h : W.ownsRow b E size (.slice A n c) n xs) (h' : W.ownsRow b' E' size' (.slice A' n' c') n' ys) (hE : E ≠ E') (hg : W.grownBy W' (A'.map (·.block))) : W'.ownsRow b E size (.slice A n c) n xs :=
  ownsRow_block h fun a ha => by
    obtain ⟨cs, fr, hh⟩ := own_row h a.block (by rw [ha]; rfl)
    refine hg.block _ (lt_of_heap hh) (fun e => ?_)
    obtain ⟨cs', fr', hh'⟩ := own_row h' a.block e.symm
    rw [hh] at hh'
    injection hh' with hh'
    injection hh' with _ ht
    exact hE ht
end
/-- what was there is so still, but for block g and the row Ab, which is now Ab' -/
structure Part2 (w w' : World) (g : Nat) (Ab Ab' : Option Addr) : Prop where
  size : w.heap.size ≤ w'.heap.size
  heap : ∀ k, k < w.heap.size → k ≠ g → Ab.map (·.block) ≠ some k → w'.heap[k]? = w.heap[k]?
  row : ∀ k, Ab'.map (·.block) = some k → Ab.map (·.block) = some k ∨ w.heap.size ≤ k
section
variable {w w' w2 : World} {g : Nat} {Ab Ab' : Option Addr}
theorem Part2.below (h : Below w.heap.size w w') : Part2 w w' g Ab Ab := ⟨h.size, fun k hk _ _ => h.block k hk, fun k hk => .inl hk⟩
theorem Part2.grown (h : Part2 w w' g Ab Ab) (hg : w'.grownBy w2 (Ab.map (·.block))) (hs : Stays w' Ab Ab') : Part2 w w2 g Ab Ab' :=
  ⟨Nat.le_trans h.size hg.size, fun k hk h1 h2 => (hg.block k (Nat.lt_of_lt_of_le hk h.size) (fun e => h2 e.symm)).trans (h.heap k hk h1 h2), fun k hk => by
    rcases hs with h0 | h0
    · exact .inl (h0 ▸ hk)
    · rw [h0] at hk
      injection hk with hk
      exact .inr (hk ▸ h.size)⟩
theorem Part2.set_ (h : Part2 w w' g Ab Ab') (j : Nat) (u : Value) : Part2 w (w'.setCell ⟨g, j, none⟩ u) g Ab Ab' :=
  ⟨by rw [World.size_setCell]; exact h.size, fun k hk h1 h2 => (Below.heap_setCell w' ⟨g, j, none⟩ u k h1).trans (h.heap k hk h1 h2), h.row⟩
end
/-- what part hands back -/
def PartRet (w : World) (base g k m ch : Nat) (Ao Ab : Option Addr) (no co at_ : Nat) (out : List UInt8) (bd : List Nat) (xs : List UInt8) (e : Ending) (w' : World) : Prop :=
  ∃ Ap cp Ab' nb' cb', e = .returned (.tuple #[.slice Ap (Crcp.cutV xs).length cp, .bool (Stp.goodB xs)]) ∧ w'.ownsRow w.heap.size 5 1 (.slice Ap (Crcp.cutV xs).length cp) (Crcp.cutV xs).length ((Crcp.cutV xs).map B8) ∧
    Rdr w' base g k m ch Ao no co Ab' nb' cb' (at_ + 1) out (bd ++ (if Stp.goodB xs = true then [] else [at_])) ∧ nb' ≤ at_ + 1 ∧ Below base w w' ∧ Part2 w w' g Ab Ab'
theorem info_i64 : (Tryd.prog.info? 3).map (fun i => (i.zero, i.size, i.bytes)) = some (some (.int .i64 0), 1, 8) := by kernel_rfl
set_option maxRecDepth 100000 in
set_option maxHeartbeats 4000000 in
theorem part_in (base g k m ch no co nb cb at_ : Nat) (Ao Ab A : Option Addr) (n c : Nat) (out xs : List UInt8) (bd : List Nat) (w : World) (ht : Tab w) (hR : Rdr w base g k m ch Ao no co Ab nb cb at_ out bd) (hb : base ≤ w.heap.size) (hr : Reads w w.heap.size 1 A n (xs.map B8)) (hnc : n ≤ c) (hcm : c ≤ maxLen) (hn : n ≤ 1000000000) (ha : at_ ≤ 1000000000) (hnb : nb ≤ at_) :
    Calls Tryd.prog 46 #[.pointer (some ⟨g, 0, none⟩), .slice A n c] w (PartRet w base g k m ch Ao Ab no co at_ out bd xs) := by
  have KC := Lib.hid (cut_any A n c xs w ht hr hnc hcm (by omega))
  unfold SlErr at KC
  unfold PartRet
  have RG : Hid (∀ W, Below w.heap.size w W → Rdr W base g k m ch Ao no co Ab nb cb at_ out bd) := fun W hW => hR.below hW
  have hgd : Stp.goodB xs = decide (Crcp.cutE xs = 0) := rfl
  have HBW := Lib.hid hb
  clear hR hr ht
  cases h : Stp.goodB xs with
  | true =>
    have he : Crcp.cutE xs = 0 := of_decide_eq_true (hgd ▸ h)
    rw [if_pos rfl, List.append_nil]
    rw [he] at KC
    clear h hgd he
    generalize Crcp.cutV xs = V at *
    go_enter Tryd.func46, Tryd.ntmps46
    go_wp2_with fail
    refine KC.out.mono ?_; rintro e w1 ⟨Ap, cp, rfl, hf⟩
    have hR1 := Lib.hid (RG.out w1 hf.2)
    have hb1 := hR1.out.blk
    have c5 := hb1.cell 5
    have kf5 := hb1.frozen 5
    have HF := Lib.hid hf
    clear hb1 hf
    go_wp2_with fail
    go_ret2
    refine ⟨Ap, cp, Ab, nb, cb, rfl, ?_, ⟨?_, hR1.out.ge, own_rdr hR1.out.oo hR1.out.blk (by decide) _, own_rdr hR1.out.ob hR1.out.blk (by decide) _⟩, by omega, ?_, ?_⟩
    · exact own_rdr HF.out.1 hR1.out.blk (by decide) _
    · exact hR1.out.blk.set_ 5 _
    · exact (HF.out.2.mono HBW.out).setCell (p := ⟨g, 5, none⟩) hR1.out.ge _
    · exact (Part2.below HF.out.2).set_ _ _
  | false =>
    have he : Crcp.cutE xs ≠ 0 := of_decide_eq_false (hgd ▸ h)
    rw [if_neg (by decide)]
    generalize Crcp.cutE xs = er at *
    have e1 : (er == (0 : Int)) = false := by simp [he]
    have e2 : (er != (0 : Int)) = true := by simp [he]
    clear h hgd
    generalize Crcp.cutV xs = V at *
    obtain ⟨i2, hj, hx0, hx1, hx2⟩ := info_parts info_i64
    replace hj := Lib.hid hj; replace hx0 := Lib.hid hx0; replace hx1 := Lib.hid hx1; replace hx2 := Lib.hid hx2
    have hm1 : nb + 1 ≤ maxLen := by unfold maxLen; omega
    have hm2 : (nb + 1) * 8 ≤ 140737488355328 := by omega
    clear he
    go_enter Tryd.func46, Tryd.ntmps46
    go_wp2_with fail
    refine KC.out.mono ?_; rintro e w1 ⟨Ap, cp, rfl, hf⟩
    have hR1 := Lib.hid (RG.out w1 hf.2)
    have hb1 := hR1.out.blk
    have c4 := hb1.cell 4
    have c5 := hb1.cell 5
    have HF := Lib.hid hf
    have SB : Hid (∀ W, Below w1.heap.size w1 W → W.cell? ⟨g, 4, none⟩ = some (.slice Ab nb cb) ∧ W.cell? ⟨g, 5, none⟩ = some (.int .i64 at_)) := fun W hW => ⟨(hR1.out.below hW).blk.cell 4, (hR1.out.below hW).blk.cell 5⟩
    clear hb1 hf
    go_wp2_with fail
    refine region_E 11 (fun W => W.cell? ⟨g, 4, none⟩ = some (.slice Ab nb cb) ∧ W.cell? ⟨g, 5, none⟩ = some (.int .i64 at_)) (by kernel_rfl) ⟨c4, c5⟩ (fun hHeld => ?_)
    refine took 0 (v := ?_) rfl (by kernel_rfl) (by kernel_rfl) (by kernel_rfl) (by kernel_rfl) (fun _ _ _ h => h) (by rfl) (by assumption) ?_ ?_
    rotate_left
    · (intro W hSw; (try dsimp only at hSw); go_simp; first | done | with_reducible rfl)
    try simp only [Act.put, List.setIfInBounds_toArray, List.set_cons_zero, List.set_cons_succ]
    refine took 1 (v := ?_) rfl (by kernel_rfl) (by kernel_rfl) (by kernel_rfl) (by kernel_rfl) (fun _ _ _ h => h) (by rfl) (by assumption) ?_ ?_
    rotate_left
    · (intro W hSw; (try dsimp only at hSw); go_simp; first | done | with_reducible rfl)
    try simp only [Act.put, List.setIfInBounds_toArray, List.set_cons_zero, List.set_cons_succ]
    refine took 2 (v := ?_) rfl (by kernel_rfl) (by kernel_rfl) (by kernel_rfl) (by kernel_rfl) (fun _ _ _ h => h) (by rfl) (by assumption) ?_ ?_
    rotate_left
    · (intro W hSw; (try dsimp only at hSw); go_simp; first | done | with_reducible rfl)
    try simp only [Act.put, List.setIfInBounds_toArray, List.set_cons_zero, List.set_cons_succ]
    refine took 3 (v := ?_) rfl (by kernel_rfl) (by kernel_rfl) (by kernel_rfl) (by kernel_rfl) (fun _ _ _ h => h) (by rfl) (by assumption) ?_ ?_
    rotate_left
    · (intro W hSw; (try dsimp only at hSw); go_simp; first | done | with_reducible rfl)
    try simp only [Act.put, List.setIfInBounds_toArray, List.set_cons_zero, List.set_cons_succ]
    refine took 4 (v := ?_) rfl (by kernel_rfl) (by kernel_rfl) (by kernel_rfl) (by kernel_rfl) (fun _ _ _ h => h) (by rfl) (by assumption) ?_ ?_
    rotate_left
    · (intro W hSw; (try dsimp only at hSw); go_simp; first | done | with_reducible rfl)
    try simp only [Act.put, List.setIfInBounds_toArray, List.set_cons_zero, List.set_cons_succ]
    refine took 5 (v := ?_) rfl (by kernel_rfl) (by kernel_rfl) (by kernel_rfl) (by kernel_rfl) (fun _ _ _ h => h) (by rfl) (by assumption) ?_ ?_
    rotate_left
    · (intro W hSw; (try dsimp only at hSw); go_simp; first | done | with_reducible rfl)
    try simp only [Act.put, List.setIfInBounds_toArray, List.set_cons_zero, List.set_cons_succ]
    refine took 6 (v := ?_) rfl (by kernel_rfl) (by kernel_rfl) (by kernel_rfl) (by kernel_rfl) (fun _ _ _ h => h) (by rfl) (by assumption) ?_ ?_
    rotate_left
    · (intro W hSw; (try dsimp only at hSw); go_simp; first | done | with_reducible rfl)
    try simp only [Act.put, List.setIfInBounds_toArray, List.set_cons_zero, List.set_cons_succ]
    refine took 7 (v := ?_) rfl (by kernel_rfl) (by kernel_rfl) (by kernel_rfl) (by kernel_rfl) (fun _ _ _ h => h) (by rfl) (by assumption) ?_ ?_
    rotate_left
    · (intro W hSw; (try dsimp only at hSw); go_simp; first | done | with_reducible rfl)
    try simp only [Act.put, List.setIfInBounds_toArray, List.set_cons_zero, List.set_cons_succ]
    refine took 8 (v := ?_) rfl (by kernel_rfl) (by kernel_rfl) (by kernel_rfl) (by kernel_rfl) (fun _ _ _ h => h) (by rfl) (by assumption) ?_ ?_
    rotate_left
    · (intro W hSw; (try dsimp only at hSw); go_simp; first | done | with_reducible rfl)
    try simp only [Act.put, List.setIfInBounds_toArray, List.set_cons_zero, List.set_cons_succ]
    have HA := Lib.hid (((Below.refl w1.heap.size w1).drew).alloc (Nat.le_refl _) (.cells #[.int .i64 at_] 3))
    refine carried 9 rfl (by kernel_rfl) (by rfl) (fun K hK => ?_)
    go_simp
    skip
    refine hK.out _ _ ((SB.out _ HA.out)) (fun hHeld => ?_)
    clear hK K
    try simp only [Act.put, List.setIfInBounds_toArray, List.set_cons_zero, List.set_cons_succ]
    have hR2 := hR1.out.below HA.out
    have ho2 := hR2.ob
    have hbs : base ≤ (w1.drew.alloc (.cells #[.int .i64 at_] 3)).heap.size := Nat.le_trans HBW.out (Nat.le_trans HF.out.2.size HA.out.size)
    replace hR2 := Lib.hid hR2; replace ho2 := Lib.hid ho2
    refine carriedL 10 rfl (by kernel_rfl) (fun K hK => ?_)
    (refine step_append_any _ (by rfl) _ _ _ (by rfl) base 3 i2 (.int .i64 0) 1 8 Tryd.underlying32 hj.out hx0.out hx1.out hx2.out rfl (by omega) Ab nb cb _ (by rfl) ho2.out (w1.heap.size + 1) _ 1 1 _ (by rfl) (reads_one w1.drew _ _) (one_one rfl) hm1 hm2 hbs ?_; intro A3 c3 w4 ho4 hg4 hs4; have hb4 : Blk w4 g 65 _ := blk_grownR hR2.out.blk ho2.out (by decide) hg4)
    refine hK.out _ _ (⟨hb4.cell 4, hb4.cell 5⟩) (fun hHeld => ?_)
    clear hK K
    try simp only [Act.put, List.setIfInBounds_toArray, List.set_cons_zero, List.set_cons_succ]
    have kf4 := hb4.frozen 4
    refine lately 11 rfl (by kernel_rfl) (by decide) (by rfl) (fun K hK => ?_)
    go_simp
    refine hK.out _ _ ?_
    clear hK K
    try simp only [Act.put, List.setIfInBounds_toArray, List.set_cons_zero, List.set_cons_succ]
    refine lately 12 rfl (by kernel_rfl) (by decide) (by rfl) (fun K hK => ?_)
    go_simp
    refine hK.out _ _ ?_
    clear hK K
    try simp only [Act.put, List.setIfInBounds_toArray, List.set_cons_zero, List.set_cons_succ]
    refine lately 13 rfl (by kernel_rfl) (by decide) (by rfl) (fun K hK => ?_)
    go_simp
    refine hK.out _ _ ?_
    clear hK K
    try simp only [Act.put, List.setIfInBounds_toArray, List.set_cons_zero, List.set_cons_succ]
    refine allDone (by kernel_rfl) ?_ _
    have hBB : Below base w w4 := below_app ((HF.out.2.mono HBW.out).trans (HA.out.mono (Nat.le_trans HBW.out HF.out.2.size))) hg4 ho2.out hbs
    have hKK : Part2 w w4 g Ab A3 := (Part2.below (HF.out.2.trans (HA.out.mono HF.out.2.size))).grown hg4 hs4
    have hOO : w4.ownsRow base 5 1 (.slice Ao no co) no (out.map B8) := own_grownT hR2.out.oo ho2.out (by decide) hg4
    have hPP : w4.ownsRow w.heap.size 5 1 (.slice Ap V.length cp) V.length (V.map B8) := own_grownT (own_belowL HF.out.1 HA.out) ho2.out (by decide) hg4
    have hbk := hb4.set_ 4 (.slice A3 (nb + 1) c3)
    have hBK := Lib.hid hbk
    have hB4 := Lib.hid hb4
    have HGE := Lib.hid hR1.out.ge
    replace hBB := Lib.hid hBB; replace hKK := Lib.hid hKK; replace hOO := Lib.hid hOO; replace hPP := Lib.hid hPP; replace ho4 := Lib.hid ho4
    have c5' := hbk.cell 5
    have kf5 := hbk.frozen 5
    clear hHeld c4 c5 SB hR2 ho2 hg4 hs4 HA hbs hb4 kf4 hbk
    go_wp2_with fail
    go_ret2
    refine ⟨Ap, cp, A3, nb + 1, c3, rfl, ?_, ⟨?_, HGE.out, ?_, ?_⟩, by omega, ?_, ?_⟩
    · exact own_rdr (own_rdr hPP.out hB4.out (by decide) _) hBK.out (by decide) _
    · exact hBK.out.set_ 5 _
    · exact own_rdr (own_rdr hOO.out hB4.out (by decide) _) hBK.out (by decide) _
    · have h5 := own_rdr (j := 5) (own_rdr (j := 4) ho4.out hB4.out (by decide) (.slice A3 (nb + 1) c3)) hBK.out (by decide) (.int .i64 ((at_ : Int) + 1))
      rw [List.map_append]; exact h5
    · exact (hBB.out.setCell (p := ⟨g, 4, none⟩) HGE.out _).setCell (p := ⟨g, 5, none⟩) HGE.out _
    · exact (hKK.out.set_ _ _).set_ _ _
end Go.Proofs.YtjbedcgacnnanaaDoor
