/-
  Texts put together: Stm Stq Sto Stu Str.
-/
import Derived.Test.YtjbedcgacnnanaaDoorBsl
import Derived.Test.YtjbedcgacnnanaaDoorTcs
import Derived.Test.YtjbedcgacnnanaaDoorBa
import Derived.Test.YtjbedcgacnnanaaDoorStc
import Derived.Test.YtjbedcgacnnanaaDoorRsm
import Derived.Test.YtjbedcgacnnanaaDoorRso
import Derived.Test.YtjbedcgacnnanaaDoorStk
import Derived.RangeFuncWrites
import Derived.Test.YtjbedcgacnnanaaDoorRsn
import Derived.RangeFuncCalls
namespace Go.Proofs.YtjbedcgacnnanaaDoor
set_option linter.unusedSimpArgs false
set_option linter.unusedVariables false
open Go.RowKit

/-- blocks of cells that are neither readers nor rows of ints stand as they stood -/
def KeepR (w w' : World) : Prop := ∀ (k : Nat) (t : TypeId) (cs : Array Value) (fr : Nat × Nat), w.heap[k]? = some (.cells cs t fr) → t ≠ 65 → t ≠ 3 → w'.heap[k]? = some (.cells cs t fr)
theorem KeepR.refl (w : World) : KeepR w w := fun _ _ _ _ h _ _ => h
theorem KeepR.trans {a b c : World} (h : KeepR a b) (h' : KeepR b c) : KeepR a c := fun k t cs fr hk h1 h2 => h' k t cs fr (h k t cs fr hk h1 h2) h1 h2
theorem KeepR.drew (w : World) : KeepR w w.drew := fun _ _ _ _ h _ _ => h
theorem KeepR.alloc (w : World) (o : Obj) : KeepR w (w.alloc o) := fun k _ _ _ hk _ _ => (heap_alloc_old w o (lt_of_heap hk)).trans hk
theorem KeepR.below {w w' : World} (h : Below w.heap.size w w') : KeepR w w' := fun k _ _ _ hk _ _ => (h.block k (lt_of_heap hk)).trans hk
theorem KeepR.setCell {w : World} {g : Nat} {cs : Array Value} {t : TypeId} {fr : Nat × Nat} (hg : w.heap[g]? = some (.cells cs t fr)) (ht : t = 65 ∨ t = 3) (j : Nat) (u : Value) : KeepR w (w.setCell ⟨g, j, none⟩ u) := fun k t' cs' fr' hk h1 h2 => by
  have hne : k ≠ g := by
    rintro rfl
    rw [hg] at hk
    injection hk with hk
    injection hk with _ hk
    subst hk
    rcases ht with ht | ht
    · exact h1 ht
    · exact h2 ht
  exact (Below.heap_setCell w ⟨g, j, none⟩ u k hne).trans hk
theorem KeepR.grown {w w' : World} {base n c : Nat} {A : Option Addr} {xs : List Value} (h : w.ownsRow base 3 1 (.slice A n c) n xs) (hg : w.grownBy w' (A.map (·.block))) : KeepR w w' := fun k t cs fr hk h1 h2 => by
  refine (hg.block k (lt_of_heap hk) fun e => ?_).trans hk
  obtain ⟨cs', fr', h3⟩ := own_row h k e.symm
  rw [hk] at h3
  injection h3 with h3
  injection h3 with _ h3
  exact h2 h3
theorem KeepR.own {w w' : World} {base size n c : Nat} {A : Option Addr} {E : TypeId} {xs : List Value} (hk : KeepR w w') (h : w.ownsRow base E size (.slice A n c) n xs) (h1 : E ≠ 65) (h2 : E ≠ 3) : w'.ownsRow base E size (.slice A n c) n xs :=
  ownsRow_block h fun a ha => by
    obtain ⟨cs, fr, hc⟩ := own_row h a.block (by rw [ha]; rfl)
    rw [hc]
    exact hk _ _ _ _ hc h1 h2
theorem KeepR.blk {w w' : World} {g : Nat} {t : TypeId} {cs : Array Value} (hk : KeepR w w') (h : Blk w g t cs) (h1 : t ≠ 65) (h2 : t ≠ 3) : Blk w' g t cs := hk _ _ _ _ h h1 h2
/-- the reader in its box -/
structure Rdr (W : World) (base g k m ch : Nat) (Ao : Option Addr) (no co : Nat) (Ab : Option Addr) (nb cb at_ : Nat) (out : List UInt8) (bd : List Nat) : Prop where
  blk : Blk W g 65 #[.int .i64 k, .int .i64 m, .int .i64 ch, .slice Ao no co, .slice Ab nb cb, .int .i64 at_]
  ge : base ≤ g
  oo : W.ownsRow base 5 1 (.slice Ao no co) no (out.map B8)
  ob : W.ownsRow base 3 1 (.slice Ab nb cb) nb (bd.map NV)
section
variable {W W' : World} {base g k m ch no co nb cb at_ : Nat} {Ao Ab : Option Addr} {out : List UInt8} {bd : List Nat}
theorem Rdr.below (h : Rdr W base g k m ch Ao no co Ab nb cb at_ out bd) (hB : Below W.heap.size W W') : Rdr W' base g k m ch Ao no co Ab nb cb at_ out bd :=
  ⟨h.blk.below hB h.blk.lt, h.ge, own_belowL h.oo hB, own_belowL h.ob hB⟩
theorem Rdr.drew (h : Rdr W base g k m ch Ao no co Ab nb cb at_ out bd) : Rdr W.drew base g k m ch Ao no co Ab nb cb at_ out bd := ⟨h.blk.drew, h.ge, h.oo.drew, h.ob.drew⟩
/-- a cell of the box turned: the rows stand -/
theorem own_rdr {E : TypeId} {size n c j : Nat} {A : Option Addr} {xs : List Value} {cs : Array Value} (h : W.ownsRow base E size (.slice A n c) n xs) (hb : Blk W g 65 cs) (hE : E ≠ 65) (u : Value) : (W.setCell ⟨g, j, none⟩ u).ownsRow base E size (.slice A n c) n xs :=
  ownsRow_block h fun a ha => by
    refine Below.heap_setCell W ⟨g, j, none⟩ u a.block (fun e => ?_)
    obtain ⟨cs', fr, hc⟩ := own_row h g (by rw [ha]; exact congrArg some e)
    have hb' : W.heap[g]? = some (.cells cs 65) := hb
    rw [hb'] at hc
    injection hc with hc
    injection hc with _ hc
    exact hE hc.symm
theorem blk_grownR {cs : Array Value} {n c b : Nat} {A : Option Addr} {E : TypeId} {size : Nat} {xs : List Value} (hb : Blk W g 65 cs) (h : W.ownsRow b E size (.slice A n c) n xs) (hE : E ≠ 65) (hg : W.grownBy W' (A.map (·.block))) : Blk W' g 65 cs :=
  hb.grown hg fun e => by
    obtain ⟨cs', fr, hc⟩ := own_row h g e.symm
    have hb' : W.heap[g]? = some (.cells cs 65) := hb
    rw [hb'] at hc
    injection hc with hc
    injection hc with _ hc
    exact hE hc.symm
/-- a row of another type stands while one grows -/
theorem own_grownT {E E' : TypeId} {size size' n c n' c' b b' : Nat} {A A' : Option Addr} {xs ys : List Value} (h : W.ownsRow b E size (.slice A n c) n xs) (h' : W.ownsRow b' E' size' (.slice A' n' c') n' ys) (hE : E ≠ E') (hg : W.grownBy W' (A'.map (·.block))) : W'.ownsRow b E size (.slice A n c) n xs :=
  ownsRow_block h fun a ha => by
    obtain ⟨cs, fr, hh⟩ := own_row h a.block (by rw [ha]; rfl)
    refine hg.block _ (lt_of_heap hh) (fun e => ?_)
    obtain ⟨cs', fr', hh'⟩ := own_row h' a.block e.symm
    rw [hh] at hh'
    injection hh' with hh'
    injection hh' with _ ht
    exact hE ht
end
/-- what was there is so still, but for block g and the row Ab, which is now Ab' -/
structure Part2 (w w' : World) (g : Nat) (Ab Ab' : Option Addr) : Prop where
  size : w.heap.size ≤ w'.heap.size
  heap : ∀ k, k < w.heap.size → k ≠ g → Ab.map (·.block) ≠ some k → w'.heap[k]? = w.heap[k]?
  row : ∀ k, Ab'.map (·.block) = some k → Ab.map (·.block) = some k ∨ w.heap.size ≤ k
section
variable {w w' w2 : World} {g : Nat} {Ab Ab' : Option Addr}
theorem Part2.below (h : Below w.heap.size w w') : Part2 w w' g Ab Ab := ⟨h.size, fun k hk _ _ => h.block k hk, fun k hk => .inl hk⟩
theorem Part2.grown (h : Part2 w w' g Ab Ab) (hg : w'.grownBy w2 (Ab.map (·.block))) (hs : Stays w' Ab Ab') : Part2 w w2 g Ab Ab' :=
  ⟨Nat.le_trans h.size hg.size, fun k hk h1 h2 => (hg.block k (Nat.lt_of_lt_of_le hk h.size) (fun e => h2 e.symm)).trans (h.heap k hk h1 h2), fun k hk => by
    rcases hs with h0 | h0
    · exact .inl (h0 ▸ hk)
    · rw [h0] at hk
      injection hk with hk
      exact .inr (hk ▸ h.size)⟩
theorem Part2.set_ (h : Part2 w w' g Ab Ab') (j : Nat) (u : Value) : Part2 w (w'.setCell ⟨g, j, none⟩ u) g Ab Ab' :=
  ⟨by rw [World.size_setCell]; exact h.size, fun k hk h1 h2 => (Below.heap_setCell w' ⟨g, j, none⟩ u k h1).trans (h.heap k hk h1 h2), h.row⟩
end
/-- what part hands back -/
def PartRet (w : World) (base g k m ch : Nat) (Ao Ab : Option Addr) (no co at_ : Nat) (out : List UInt8) (bd : List Nat) (xs : List UInt8) (e : Ending) (w' : World) : Prop :=
  ∃ Ap cp Ab' nb' cb', e = .returned (.tuple #[.slice Ap (Crcp.cutV xs).length cp, .bool (Stp.goodB xs)]) ∧ w'.ownsRow w.heap.size 5 1 (.slice Ap (Crcp.cutV xs).length cp) (Crcp.cutV xs).length ((Crcp.cutV xs).map B8) ∧
    Rdr w' base g k m ch Ao no co Ab' nb' cb' (at_ + 1) out (bd ++ (if Stp.goodB xs = true then [] else [at_])) ∧ nb' ≤ at_ + 1 ∧ Below base w w' ∧ Part2 w w' g Ab Ab'
theorem info_i64 : (Tryd.prog.info? 3).map (fun i => (i.zero, i.size, i.bytes)) = some (some (.int .i64 0), 1, 8) := by kernel_rfl
set_option maxRecDepth 100000 in
set_option maxHeartbeats 4000000 in
theorem part_in (base g k m ch no co nb cb at_ : Nat) (Ao Ab A : Option Addr) (n c : Nat) (out xs : List UInt8) (bd : List Nat) (w : World) (ht : Tab w) (hR : Rdr w base g k m ch Ao no co Ab nb cb at_ out bd) (hb : base ≤ w.heap.size) (hr : Reads w w.heap.size 1 A n (xs.map B8)) (hnc : n ≤ c) (hcm : c ≤ maxLen) (hn : n ≤ 1000000000) (ha : at_ ≤ 1000000000) (hnb : nb ≤ at_) :
    Calls Tryd.prog 46 #[.pointer (some ⟨g, 0, none⟩), .slice A n c] w (PartRet w base g k m ch Ao Ab no co at_ out bd xs) := by
  have KC := Lib.hid (cut_any A n c xs w ht hr hnc hcm (by omega))
  unfold SlErr at KC
  unfold PartRet
  have RG : Hid (∀ W, Below w.heap.size w W → Rdr W base g k m ch Ao no co Ab nb cb at_ out bd) := fun W hW => hR.below hW
  have hgd : Stp.goodB xs = decide (Crcp.cutE xs = 0) := rfl
  have HBW := Lib.hid hb
  clear hR hr ht
  cases h : Stp.goodB xs with
  | true =>
    have he : Crcp.cutE xs = 0 := of_decide_eq_true (hgd ▸ h)
    rw [if_pos rfl, List.append_nil]
    rw [he] at KC
    clear h hgd he
    generalize Crcp.cutV xs = V at *
    go_enter Tryd.func46, Tryd.ntmps46
    go_wp2_with fail
    refine KC.out.mono ?_; rintro e w1 ⟨Ap, cp, rfl, hf⟩
    have hR1 := Lib.hid (RG.out w1 hf.2)
    have hb1 := hR1.out.blk
    have c5 := hb1.cell 5
    have kf5 := hb1.frozen 5
    have HF := Lib.hid hf
    clear hb1 hf
    go_wp2_with fail
    go_ret2
    refine ⟨Ap, cp, Ab, nb, cb, rfl, ?_, ⟨?_, hR1.out.ge, own_rdr hR1.out.oo hR1.out.blk (by decide) _, own_rdr hR1.out.ob hR1.out.blk (by decide) _⟩, by omega, ?_, ?_⟩
    · exact own_rdr HF.out.1 hR1.out.blk (by decide) _
    · exact hR1.out.blk.set_ 5 _
    · exact (HF.out.2.mono HBW.out).setCell (p := ⟨g, 5, none⟩) hR1.out.ge _
    · exact (Part2.below HF.out.2).set_ _ _
  | false =>
    have he : Crcp.cutE xs ≠ 0 := of_decide_eq_false (hgd ▸ h)
    rw [if_neg (by decide)]
    generalize Crcp.cutE xs = er at *
    have e1 : (er == (0 : Int)) = false := by simp [he]
    have e2 : (er != (0 : Int)) = true := by simp [he]
    clear h hgd
    generalize Crcp.cutV xs = V at *
    obtain ⟨i2, hj, hx0, hx1, hx2⟩ := info_parts info_i64
    replace hj := Lib.hid hj; replace hx0 := Lib.hid hx0; replace hx1 := Lib.hid hx1; replace hx2 := Lib.hid hx2
    have hm1 : nb + 1 ≤ maxLen := by unfold maxLen; omega
    have hm2 : (nb + 1) * 8 ≤ 140737488355328 := by omega
    clear he
    go_enter Tryd.func46, Tryd.ntmps46
    go_wp2_with fail
    refine KC.out.mono ?_; rintro e w1 ⟨Ap, cp, rfl, hf⟩
    have hR1 := Lib.hid (RG.out w1 hf.2)
    have hb1 := hR1.out.blk
    have c4 := hb1.cell 4
    have c5 := hb1.cell 5
    have HF := Lib.hid hf
    have SB : Hid (∀ W, Below w1.heap.size w1 W → W.cell? ⟨g, 4, none⟩ = some (.slice Ab nb cb) ∧ W.cell? ⟨g, 5, none⟩ = some (.int .i64 at_)) := fun W hW => ⟨(hR1.out.below hW).blk.cell 4, (hR1.out.below hW).blk.cell 5⟩
    clear hb1 hf
    go_wp2_with fail
    refine region_E 11 (fun W => W.cell? ⟨g, 4, none⟩ = some (.slice Ab nb cb) ∧ W.cell? ⟨g, 5, none⟩ = some (.int .i64 at_)) (by kernel_rfl) ⟨c4, c5⟩ (fun hHeld => ?_)
    refine took 0 (v := ?_) rfl (by kernel_rfl) (by kernel_rfl) (by kernel_rfl) (by kernel_rfl) (fun _ _ _ h => h) (by rfl) (by assumption) ?_ ?_
    rotate_left
    · (intro W hSw; (try dsimp only at hSw); go_simp; first | done | with_reducible rfl)
    try simp only [Act.put, List.setIfInBounds_toArray, List.set_cons_zero, List.set_cons_succ]
    refine took 1 (v := ?_) rfl (by kernel_rfl) (by kernel_rfl) (by kernel_rfl) (by kernel_rfl) (fun _ _ _ h => h) (by rfl) (by assumption) ?_ ?_
    rotate_left
    · (intro W hSw; (try dsimp only at hSw); go_simp; first | done | with_reducible rfl)
    try simp only [Act.put, List.setIfInBounds_toArray, List.set_cons_zero, List.set_cons_succ]
    refine took 2 (v := ?_) rfl (by kernel_rfl) (by kernel_rfl) (by kernel_rfl) (by kernel_rfl) (fun _ _ _ h => h) (by rfl) (by assumption) ?_ ?_
    rotate_left
    · (intro W hSw; (try dsimp only at hSw); go_simp; first | done | with_reducible rfl)
    try simp only [Act.put, List.setIfInBounds_toArray, List.set_cons_zero, List.set_cons_succ]
    refine took 3 (v := ?_) rfl (by kernel_rfl) (by kernel_rfl) (by kernel_rfl) (by kernel_rfl) (fun _ _ _ h => h) (by rfl) (by assumption) ?_ ?_
    rotate_left
    · (intro W hSw; (try dsimp only at hSw); go_simp; first | done | with_reducible rfl)
    try simp only [Act.put, List.setIfInBounds_toArray, List.set_cons_zero, List.set_cons_succ]
    refine took 4 (v := ?_) rfl (by kernel_rfl) (by kernel_rfl) (by kernel_rfl) (by kernel_rfl) (fun _ _ _ h => h) (by rfl) (by assumption) ?_ ?_
    rotate_left
    · (intro W hSw; (try dsimp only at hSw); go_simp; first | done | with_reducible rfl)
    try simp only [Act.put, List.setIfInBounds_toArray, List.set_cons_zero, List.set_cons_succ]
    refine took 5 (v := ?_) rfl (by kernel_rfl) (by kernel_rfl) (by kernel_rfl) (by kernel_rfl) (fun _ _ _ h => h) (by rfl) (by assumption) ?_ ?_
    rotate_left
    · (intro W hSw; (try dsimp only at hSw); go_simp; first | done | with_reducible rfl)
    try simp only [Act.put, List.setIfInBounds_toArray, List.set_cons_zero, List.set_cons_succ]
    refine took 6 (v := ?_) rfl (by kernel_rfl) (by kernel_rfl) (by kernel_rfl) (by kernel_rfl) (fun _ _ _ h => h) (by rfl) (by assumption) ?_ ?_
    rotate_left
    · (intro W hSw; (try dsimp only at hSw); go_simp; first | done | with_reducible rfl)
    try simp only [Act.put, List.setIfInBounds_toArray, List.set_cons_zero, List.set_cons_succ]
    refine took 7 (v := ?_) rfl (by kernel_rfl) (by kernel_rfl) (by kernel_rfl) (by kernel_rfl) (fun _ _ _ h => h) (by rfl) (by assumption) ?_ ?_
    rotate_left
    · (intro W hSw; (try dsimp only at hSw); go_simp; first | done | with_reducible rfl)
    try simp only [Act.put, List.setIfInBounds_toArray, List.set_cons_zero, List.set_cons_succ]
    refine took 8 (v := ?_) rfl (by kernel_rfl) (by kernel_rfl) (by kernel_rfl) (by kernel_rfl) (fun _ _ _ h => h) (by rfl) (by assumption) ?_ ?_
    rotate_left
    · (intro W hSw; (try dsimp only at hSw); go_simp; first | done | with_reducible rfl)
    try simp only [Act.put, List.setIfInBounds_toArray, List.set_cons_zero, List.set_cons_succ]
    have HA := Lib.hid (((Below.refl w1.heap.size w1).drew).alloc (Nat.le_refl _) (.cells #[.int .i64 at_] 3))
    refine carried 9 rfl (by kernel_rfl) (by rfl) (fun K hK => ?_)
    go_simp
    skip
    refine hK.out _ _ ((SB.out _ HA.out)) (fun hHeld => ?_)
    clear hK K
    try simp only [Act.put, List.setIfInBounds_toArray, List.set_cons_zero, List.set_cons_succ]
    have hR2 := hR1.out.below HA.out
    have ho2 := hR2.ob
    have hbs : base ≤ (w1.drew.alloc (.cells #[.int .i64 at_] 3)).heap.size := Nat.le_trans HBW.out (Nat.le_trans HF.out.2.size HA.out.size)
    replace hR2 := Lib.hid hR2; replace ho2 := Lib.hid ho2
    refine carriedL 10 rfl (by kernel_rfl) (fun K hK => ?_)
    (refine step_append_any _ (by rfl) _ _ _ (by rfl) base 3 i2 (.int .i64 0) 1 8 Tryd.underlying32 hj.out hx0.out hx1.out hx2.out rfl (by omega) Ab nb cb _ (by rfl) ho2.out (w1.heap.size + 1) _ 1 1 _ (by rfl) (reads_one w1.drew _ _) (one_one rfl) hm1 hm2 hbs ?_; intro A3 c3 w4 ho4 hg4 hs4; have hb4 : Blk w4 g 65 _ := blk_grownR hR2.out.blk ho2.out (by decide) hg4)
    refine hK.out _ _ (⟨hb4.cell 4, hb4.cell 5⟩) (fun hHeld => ?_)
    clear hK K
    try simp only [Act.put, List.setIfInBounds_toArray, List.set_cons_zero, List.set_cons_succ]
    have kf4 := hb4.frozen 4
    refine lately 11 rfl (by kernel_rfl) (by decide) (by rfl) (fun K hK => ?_)
    go_simp
    refine hK.out _ _ ?_
    clear hK K
    try simp only [Act.put, List.setIfInBounds_toArray, List.set_cons_zero, List.set_cons_succ]
    refine lately 12 rfl (by kernel_rfl) (by decide) (by rfl) (fun K hK => ?_)
    go_simp
    refine hK.out _ _ ?_
    clear hK K
    try simp only [Act.put, List.setIfInBounds_toArray, List.set_cons_zero, List.set_cons_succ]
    refine lately 13 rfl (by kernel_rfl) (by decide) (by rfl) (fun K hK => ?_)
    go_simp
    refine hK.out _ _ ?_
    clear hK K
    try simp only [Act.put, List.setIfInBounds_toArray, List.set_cons_zero, List.set_cons_succ]
    refine allDone (by kernel_rfl) ?_ _
    have hBB : Below base w w4 := below_app ((HF.out.2.mono HBW.out).trans (HA.out.mono (Nat.le_trans HBW.out HF.out.2.size))) hg4 ho2.out hbs
    have hKK : Part2 w w4 g Ab A3 := (Part2.below (HF.out.2.trans (HA.out.mono HF.out.2.size))).grown hg4 hs4
    have hOO : w4.ownsRow base 5 1 (.slice Ao no co) no (out.map B8) := own_grownT hR2.out.oo ho2.out (by decide) hg4
    have hPP : w4.ownsRow w.heap.size 5 1 (.slice Ap V.length cp) V.length (V.map B8) := own_grownT (own_belowL HF.out.1 HA.out) ho2.out (by decide) hg4
    have hbk := hb4.set_ 4 (.slice A3 (nb + 1) c3)
    have hBK := Lib.hid hbk
    have hB4 := Lib.hid hb4
    have HGE := Lib.hid hR1.out.ge
    replace hBB := Lib.hid hBB; replace hKK := Lib.hid hKK; replace hOO := Lib.hid hOO; replace hPP := Lib.hid hPP; replace ho4 := Lib.hid ho4
    have c5' := hbk.cell 5
    have kf5 := hbk.frozen 5
    clear hHeld c4 c5 SB hR2 ho2 hg4 hs4 HA hbs hb4 kf4 hbk
    go_wp2_with fail
    go_ret2
    refine ⟨Ap, cp, A3, nb + 1, c3, rfl, ?_, ⟨?_, HGE.out, ?_, ?_⟩, by omega, ?_, ?_⟩
    · exact own_rdr (own_rdr hPP.out hB4.out (by decide) _) hBK.out (by decide) _
    · exact hBK.out.set_ 5 _
    · exact own_rdr (own_rdr hOO.out hB4.out (by decide) _) hBK.out (by decide) _
    · have h5 := own_rdr (j := 5) (own_rdr (j := 4) ho4.out hB4.out (by decide) (.slice A3 (nb + 1) c3)) hBK.out (by decide) (.int .i64 ((at_ : Int) + 1))
      rw [List.map_append]; exact h5
    · exact (hBB.out.setCell (p := ⟨g, 4, none⟩) HGE.out _).setCell (p := ⟨g, 5, none⟩) HGE.out _
    · exact (hKK.out.set_ _ _).set_ _ _
end Go.Proofs.YtjbedcgacnnanaaDoor

namespace Go.Proofs.YtjbedcgacnnanaaDoor
set_option linter.unusedSimpArgs false
set_option linter.unusedVariables false
open Go.RowKit Go.Shelf
attribute [local go_sem] Oper.semAt_some

/-- two cells hold what they held -/
def CellsK (b1 b2 : Nat) (A B : World) : Prop := ∀ v, (A.cell? ⟨b1, 0, none⟩ = some v → B.cell? ⟨b1, 0, none⟩ = some v) ∧ (A.cell? ⟨b2, 0, none⟩ = some v → B.cell? ⟨b2, 0, none⟩ = some v)
theorem CellsK.refl (b1 b2 : Nat) (A : World) : CellsK b1 b2 A A := fun _ => ⟨id, id⟩
theorem CellsK.trans {b1 b2 : Nat} {A B C : World} (h : CellsK b1 b2 A B) (k : CellsK b1 b2 B C) : CellsK b1 b2 A C := fun v => ⟨fun h1 => (k v).1 ((h v).1 h1), fun h1 => (k v).2 ((h v).2 h1)⟩
theorem cell_putObj {W : World} {l : Nat} {o o' : Obj} {p : Addr} {v : Value} (h : W.heap[l]? = some o) (hc : o.isCells = false) (hp : W.cell? p = some v) : (W.putObj l o').cell? p = some v := by
  have hne : p.block ≠ l := by
    rintro rfl
    unfold World.cell? at hp
    rw [h] at hp
    cases o <;> simp_all [Obj.isCells]
  rw [← hp]
  exact World.cell?_of_block ((grownBy_putObj' W l o').block p.block (by
    have := lt_of_cell hp; exact this) (fun e => hne (by injection e)))
theorem CellsK.put (b1 b2 : Nat) {w : World} (W : World) (l : Nat) (o o' : Obj) (_ : w.heap.size ≤ l) (h : W.heap[l]? = some o) (hc : o.isCells = false) (_ : o.isWalk = false) : CellsK b1 b2 W (W.putObj l o') := fun _ => ⟨cell_putObj h hc, cell_putObj h hc⟩
set_option maxRecDepth 100000 in
set_option maxHeartbeats 4000000 in
theorem chunk1_cells (F : Fence) (n : Nat) (hf : F.fn 36) (hro : F.round = none) (hn : 1 ≤ n) (l Bs Bn : Nat) (A : Option Addr) (N c ch q : Nat) (hN : N = q * ch) (h1 : 1 ≤ ch) (hc : N ≤ c) (hNb : N ≤ 1000000000) (J Jx : List (Fin q) → World → Prop) (hJd : ∀ s W m, J s W → J s (W.drewN m))
    (hY : ∀ pre x W, J pre W → pre.length < q → YieldAt F (n - 1) Tryd.prog l #[chunkV A ch x.val] W fun e W' =>
      (e = .returned (.bool true) ∧ J (pre ++ [x]) W' ∧ CellsK Bs Bn W W') ∨ (e = .returned (.bool false) ∧ Jx (pre ++ [x]) W'))
    (W : World) (hBs : W.cell? ⟨Bs, 0, none⟩ = some (.slice A N c)) (hBn : W.cell? ⟨Bn, 0, none⟩ = some (.int .i64 ch)) (h0 : J [] W) :
    CallsIn F n Tryd.prog 36 #[.func (.yield l) #[] #[], .pointer (some ⟨Bs, 0, none⟩), .pointer (some ⟨Bn, 0, none⟩)] W fun e W' => (∃ v, e = .returned v) ∧
      ((∃ ys, ys = List.finRange q ∧ J ys W') ∨ (∃ pre, (∃ k, k ≤ q ∧ pre = (List.finRange q).take k) ∧ Jx pre W')) := by
  obtain ⟨i0, hi, hz0, hz1, hz2⟩ := info_parts info_u8
  have CUT := Lib.hid (fun (i : Nat) (h : i ≤ N) => run_cut_lo (P := Tryd.prog) 27 5 i0 1 Tryd.underlying27 hi hz1 A N c i .i64 h)
  have CUT3 := Lib.hid (fun (i s : Nat) (h2 : s = i + ch) (h3 : s ≤ c) => run_cut3 A N c i s ch h2 h1 h3)
  clear hi hz0 hz1 hz2
  have HN := Lib.hid hN
  clear hN
  refine callsIn_of_wp Tryd.func36 rfl hf ?_ hro
  simp only [Tryd.ntmps36, List.size_toArray, List.length_cons, List.length_nil, Nat.reduceAdd, Nat.reduceSub, Array.replicate_succ, Array.replicate_zero, List.push_toArray, List.append_toArray, List.nil_append, List.cons_append]
  gi_wp2
  gi_loopw [4] (fun v4 wr => ∃ k i : Nat, k ≤ q ∧ v4 = .int .i64 i ∧ i ≤ N ∧ Hid (i = k * ch) ∧ J ((List.finRange q).take k) wr ∧ CellsK Bs Bn W wr)
    (fun v4 _ => N - (intOf v4).toNat)
  case atStart => exact ⟨0, 0, Nat.zero_le _, rfl, Nat.zero_le _, by show 0 = 0 * ch; rw [Nat.zero_mul], h0, CellsK.refl _ _ _⟩
  case round =>
    obtain ⟨k, i, hk, rfl, hiN, HI, hJs, hnx⟩ := hrel
    have c1 := (hnx _).1 hBs
    have c2 := (hnx _).2 hBn
    by_cases hlt : k < q
    · have hik : i + ch ≤ N := by
        rw [HI.out, HN.out, ← Nat.succ_mul]; exact Nat.mul_le_mul_right _ hlt
      have hlt' : (i : Int) < (N : Int) := by omega
      obtain ⟨s, hs2⟩ : ∃ s, s = i + ch := ⟨_, rfl⟩
      have hsum : (i : Int) + (ch : Int) = (s : Int) := by omega
      have hsb : s ≤ 1000000000 := by omega
      have his : i < s := by omega
      have hsc : (s : Int) ≤ (c : Int) := by omega
      have hcut := CUT.out i hiN
      have hcut3 := CUT3.out i s hs2 (by omega)
      have hmin : ¬ N - i < ch := by omega
      have hmin2 : ¬ ((N - i : Nat) : Int) < (ch : Int) := by omega
      have hnn0 : (0 : Int) ≤ ((N - i : Nat) : Int) := by omega
      generalize hni : N - i = ni at *
      replace hni := Lib.hid hni
      clear CUT CUT3
      have hcv : chunkV A ch (⟨k, hlt⟩ : Fin q).val = .slice (A.map (·.add i)) ch ch := by unfold chunkV; rw [HI.out]
      rw [show A.map (·.add i) = A.map (·.add i) from rfl] at hcv
      generalize A.map (·.add i) = Ai at *
      replace hs2 := Lib.hid hs2
      gi_wp2
      refine wpIn_region_quiet_lit hro (by kernel_rfl) (by kernel_rfl) ?_
      repeat (gi_big_quiet_step (fail))
      refine wpQuietIn_nil ?_
      intro _ hw'
      obtain ⟨nq, hw''⟩ := hw'
      subst hw''
      obtain ⟨fn, tmps, assign, body, hy, hR⟩ := hY _ ⟨k, hlt⟩ (wr.drewN nq) (hJd _ _ _ hJs) (by rw [List.length_take, List.length_finRange]; omega)
      rw [hcv] at hy
      clear hcv hcut
      gi_wp2
      refine hR.mono ?_
      rintro e W3 (⟨rfl, hJ3, hk3⟩ | ⟨rfl, hJx3⟩)
      · have c3 := (hk3 _).2 c2
        gi_wp2
        go_roundw
        case rel => exact ⟨k + 1, s, by omega, rfl, by omega, by show s = (k + 1) * ch; rw [Nat.succ_mul, ← HI.out]; exact hs2.out, by rw [fin_take q k hlt]; exact hJ3, hnx.trans (fun v => hk3 v)⟩
        case measure => simp [intOf]; omega
      · gi_wp2
        refine bodyPost_ret (results_none rfl _ _ _) rfl ?_
        exact ⟨⟨_, rfl⟩, .inr ⟨_, ⟨k + 1, by omega, (fin_take q k hlt).symm⟩, hJx3⟩⟩
    · obtain rfl : k = q := by omega
      have hge : (N : Int) ≤ (i : Int) := by have := HI.out; have := HN.out; omega
      rw [List.take_of_length_le (by simp)] at hJs
      gi_wp2
      go_end0
      exact ⟨⟨_, rfl⟩, .inl ⟨_, rfl, hJs⟩⟩
theorem chunk_stopsC (F : Fence) (n : Nat) (hf : F.fn 36) (hro : F.round = none) (hn : 1 ≤ n) (Bs Bn : Nat) (A : Option Addr) (N c ch q : Nat) (hN : N = q * ch) (h1 : 1 ≤ ch) (hc : N ≤ c) (hNb : N ≤ 1000000000) (w : World)
    (hBs : w.cell? ⟨Bs, 0, none⟩ = some (.slice A N c)) (hBn : w.cell? ⟨Bn, 0, none⟩ = some (.int .i64 ch)) (hs : Bs < w.heap.size) (hnn : Bn < w.heap.size) :
    SeqStopsK F n Tryd.prog 36 #[.pointer (some ⟨Bs, 0, none⟩), .pointer (some ⟨Bn, 0, none⟩)] (fun x : Fin q => #[chunkV A ch x.val]) (CellsK Bs Bn) (fun ys => ys = List.finRange q) (fun pre => ∃ k, k ≤ q ∧ pre = (List.finRange q).take k) q w := fun l J Jx W hW hJ _ hY h0 =>
  chunk1_cells F n hf hro hn l Bs Bn A N c ch q hN h1 hc hNb J Jx (fun s W' m hs => hJ s W' (W'.drewN m) none hs ⟨rfl, rfl, rfl, Nat.le_refl _, fun _ _ _ => rfl⟩ (fun r e => by cases e)) hY W ((hW.cell (p := ⟨Bs, 0, none⟩) hs).trans hBs) ((hW.cell (p := ⟨Bn, 0, none⟩) hnn).trans hBn) h0
end Go.Proofs.YtjbedcgacnnanaaDoor

namespace Go.Proofs.YtjbedcgacnnanaaDoor
set_option linter.unusedSimpArgs false
set_option linter.unusedVariables false
open Go.RowKit

/-- what was read: bytes, numbers, an error -/
def RdRet (w : World) (v : List UInt8) (bd : List Nat) (er : Int) (e : Ending) (w' : World) : Prop :=
  ∃ A c A' c', e = .returned (.tuple #[.slice A v.length c, .slice A' bd.length c', .int .i64 er]) ∧ Reads w' w'.heap.size 1 A v.length (v.map B8) ∧ Reads w' w'.heap.size 1 A' bd.length (bd.map NV) ∧ Below w.heap.size w w'
theorem RdRet.nil {w w' : World} {er : Int} (hB : Below w.heap.size w w') : RdRet w [] [] er (.returned (.tuple #[.slice none 0 0, .slice none 0 0, .int .i64 er])) w' := ⟨none, 0, none, 0, rfl, Reads.none_, Reads.none_, hB⟩
theorem info_i64o : (Tryd.prog.info? 3).map (fun i => (i.zero, i.size, i.bytes)) = some (some (.int .i64 0), 1, 8) := by kernel_rfl
theorem info_boolo : (Tryd.prog.info? 4).map (fun i => (i.zero, i.size, i.bytes)) = some (some (.bool false), 1, 1) := by kernel_rfl
theorem bytes_beq (a b : List UInt8) : ((⟨a.toArray⟩ : ByteArray) == ⟨b.toArray⟩) = decide (a = b) := by
  show (a.toArray == b.toArray) = _
  rw [Bool.eq_iff_iff, beq_iff_eq, decide_eq_true_iff]
  exact ⟨fun h => by simpa using congrArg Array.toList h, fun h => by rw [h]⟩
theorem bytes_beqL {sa sb : ByteArray} {a b : List UInt8} (ha : (⟨a.toArray⟩ : ByteArray) = sa) (hb : (⟨b.toArray⟩ : ByteArray) = sb) : (sa.toList == sb.toList) = decide (a = b) := by
  rw [← ha, ← hb, ByteArray.toList_eq, ByteArray.toList_eq, Bool.eq_iff_iff, beq_iff_eq, decide_eq_true_iff]
theorem take_snoc {α : Type} {l : List α} {i : Nat} {x : α} (h : l[i]? = some x) : l.take (i + 1) = l.take i ++ [x] := by rw [List.take_add_one, h]; rfl
namespace Stp
section
variable {k m ch n S d L N T : Nat} {s : List UInt8}
theorem cs_len (sh : Shp k m ch n S d L N T) (hs : s.length = T) {t : Nat} (ht : t < S) : (csAt k m ch s t).length = k + m ∧ ∀ c ∈ csAt k m ch s t, c.length = ch + 4 := by
  refine ⟨partsB_len .., ?_⟩
  unfold csAt
  refine partsB_all ?_
  have h1 := Nat.mul_le_mul_right L (show t + 1 ≤ S from ht)
  have h2 := sh.hT
  rw [Nat.succ_mul] at h1
  rw [← sh.hL, List.length_take, List.length_drop, hs]; omega
theorem cs_get {t i : Nat} (hi : i < k + m) : (csAt k m ch s t)[i]? = some (chunkB s (ch + 4) (t * (k + m) + i)) := by
  unfold csAt
  rw [partsB_get hi, chunk_whole (q := k + m) rfl hi]
/-- the error of a stripe: too few good chunks, or one that clashes -/
theorem csE_few (sh : Shp k m ch n S d L N T) (hs : s.length = T) {t : Nat} (ht : t < S) (hf : (Rsp.gd (goodL (csAt k m ch s t)) (k + m)).length < k) : csE k m (csAt k m ch s t) = 12 := by
  have hc := cs_len sh hs ht
  unfold csE
  rw [cs_mendE sh.k1 rfl sh.km hc.1 hc.2, if_pos hf]; rfl
theorem csE_more (sh : Shp k m ch n S d L N T) (hs : s.length = T) {t : Nat} (ht : t < S) (hf : ¬ (Rsp.gd (goodL (csAt k m ch s t)) (k + m)).length < k) : Rsp.mendE k m (cutL (csAt k m ch s t)) (goodL (csAt k m ch s t)) = 0 ∧ csE k m (csAt k m ch s t) = if clash (k + m) (goodL (csAt k m ch s t)) (cutL (csAt k m ch s t)) (Rsp.mendV k m (cutL (csAt k m ch s t)) (goodL (csAt k m ch s t))) = true then 2 else 0 := by
  have hc := cs_len sh hs ht
  have h0 : Rsp.mendE k m (cutL (csAt k m ch s t)) (goodL (csAt k m ch s t)) = 0 := by rw [cs_mendE sh.k1 rfl sh.km hc.1 hc.2, if_neg hf]
  refine ⟨h0, ?_⟩
  unfold csE
  rw [if_pos h0]
theorem csV_len (sh : Shp k m ch n S d L N T) (hs : s.length = T) {t : Nat} (ht : t < S) (h0 : Rsp.mendE k m (cutL (csAt k m ch s t)) (goodL (csAt k m ch s t)) = 0) : (csV k m (csAt k m ch s t)).length = d := by
  have hc := cs_len sh hs ht
  have hv := cs_mendV sh.k1 rfl sh.km hc.1 hc.2 h0
  unfold csV
  rw [flat_len (L := ch) _ (fun x hx => hv.2 x (List.mem_of_mem_take hx)), List.length_take, hv.1, Nat.min_eq_left (by omega), sh.hd]
theorem rdE_first {t : Nat} (h : ∀ i, i < t → csE k m (csAt k m ch s i) = 0) (hne : csE k m (csAt k m ch s t) ≠ 0) (ht : t < S) : rdE k m ch n S s = csE k m (csAt k m ch s t) ∧ rdV k m ch n S s = [] ∧ rdB k m ch n S s = [] := by
  have hf : firstE (fun t => csE k m (csAt k m ch s t)) S = csE k m (csAt k m ch s t) := firstE_at (e := fun t => csE k m (csAt k m ch s t)) h hne ht
  have he : rdE k m ch n S s = csE k m (csAt k m ch s t) := by
    unfold rdE
    rw [hf, if_neg hne]
  exact ⟨he, by unfold rdV; rw [he, if_neg hne], by unfold rdB; rw [he, if_neg hne]⟩
theorem rdE_behind (h : ∀ i, i < S → csE k m (csAt k m ch s i) = 0) (hb : behind n (outTo k m ch s S) = true) : rdE k m ch n S s = 2 ∧ rdV k m ch n S s = [] ∧ rdB k m ch n S s = [] := by
  have he : rdE k m ch n S s = 2 := by
    unfold rdE
    rw [if_pos (firstE_all h), if_pos hb]
  exact ⟨he, by unfold rdV; rw [he, if_neg (by decide)], by unfold rdB; rw [he, if_neg (by decide)]⟩
theorem rdE_good (h : ∀ i, i < S → csE k m (csAt k m ch s i) = 0) (hb : behind n (outTo k m ch s S) = false) : rdE k m ch n S s = 0 ∧ rdV k m ch n S s = (outTo k m ch s S).take n ∧ rdB k m ch n S s = badTo (ch + 4) s (S * (k + m)) := by
  have he : rdE k m ch n S s = 0 := by
    unfold rdE
    rw [if_pos (firstE_all h), if_neg (by rw [hb]; decide)]
  exact ⟨he, by unfold rdV; rw [if_pos he], by unfold rdB; rw [if_pos he]⟩
end
end Stp
theorem Dr.own {a w : World} (h : Dr a w) {base size n c : Nat} {A : Option Addr} {E : TypeId} {xs : List Value} (ho : a.ownsRow base E size (.slice A n c) n xs) : w.ownsRow base E size (.slice A n c) n xs := own_belowL ho (h.below _)
theorem Dr.lists {a w : World} (h : Dr a w) {b0 base n c : Nat} {A : Option Addr} {xss : List (List UInt8)} (ho : Lists a b0 base A n c xss) : Lists w b0 base A n c xss := ho.below (h.below _)
set_option maxRecDepth 100000 in
set_option maxHeartbeats 16000000 in
theorem refRead_in (k m ch n S d L N T : Nat) (A : Option Addr) (c : Nat) (s : List UInt8) (w : World) (sh : Shp k m ch n S d L N T) (hp : 0 < w.heap.size) (hr : Reads w w.heap.size 1 A T (s.map B8)) (hnc : T ≤ c) (hcm : c ≤ maxLen) :
    Calls Tryd.prog 16 #[.int .i64 k, .int .i64 m, .int .i64 ch, .int .i64 n, .slice A T c] w (RdRet w (Stp.rdV k m ch n S s) (Stp.rdB k m ch n S s) (Stp.rdE k m ch n S s)) := by
  have hok : Stp.ok k m ch n = true := Stp.ok_of sh.k1 sh.km sh.c1 sh.c2 sh.n2
  have hsz : Stp.size k m ch n = T := by unfold Stp.size; rw [sh.hT, sh.hS, sh.hL]
  have hse := Stp.sizeE_in hok (by rw [hsz]; exact sh.t2)
  have KSz : Hid (Calls Tryd.prog 11 #[.int .i64 k, .int .i64 m, .int .i64 ch, .int .i64 n] w fun e w' => e = .returned (.tuple #[.int .i64 (T : Nat), .int .i64 0]) ∧ w = w') := by
    have := refSize_any k m ch n w
    rw [hse.1, hse.2, hsz] at this
    exact this
  have sl : Hid (s.length = T) := hr.len
  have d1 := sh.d1
  have d2 := sh.d2
  have N2 := sh.N2
  have nN := sh.nN
  have S2 := sh.S2
  have t2 := sh.t2
  have k1 := sh.k1
  have c1' := sh.c1
  have c2' := sh.c2
  obtain ⟨q, hq⟩ : ∃ q, k + m = q := ⟨_, rfl⟩
  have km : q ≤ 255 := by rw [← hq]; exact sh.km
  obtain ⟨ce, hce⟩ : ∃ ce, ch + 4 = ce := ⟨_, rfl⟩
  have ce1 : ce ≤ 4100 := by omega
  have hLq : L = q * ce := by rw [sh.hL, hq, hce]
  have L2 : L ≤ 1045500 := by have := Stp.laid_le sh.km sh.c2; rw [← sh.hL] at this; exact this
  have hm0 : (q : Int) * (ce : Int) = (L : Int) := by rw [hLq, Int.natCast_mul]
  have hkq : (k : Int) + (m : Int) = (q : Int) := by omega
  have hce' : (ch : Int) + 4 = (ce : Int) := by omega
  have SH := Lib.hid sh
  have RB := Lib.hid (fun W (hW : Below w.heap.size w W) => hr.below hW)
  have CS := Lib.hid (fun t (ht : t < S) => Stp.cs_len sh sl.out ht)
  have CG := Lib.hid (fun t i (hi : i < k + m) => Stp.cs_get (ch := ch) (s := s) (t := t) hi)
  obtain ⟨i0, hi, hz0, hz1, hz2⟩ := info_parts info_u8
  replace hi := Lib.hid hi; replace hz0 := Lib.hid hz0; replace hz1 := Lib.hid hz1; replace hz2 := Lib.hid hz2
  obtain ⟨i1, hi_, hy0, hy1, hy2⟩ := info_parts info_row8
  replace hi_ := Lib.hid hi_; replace hy0 := Lib.hid hy0; replace hy1 := Lib.hid hy1; replace hy2 := Lib.hid hy2
  obtain ⟨i2, hj, hx0, hx1, hx2⟩ := info_parts info_i64o
  replace hj := Lib.hid hj; replace hx0 := Lib.hid hx0; replace hx1 := Lib.hid hx1; replace hx2 := Lib.hid hx2
  obtain ⟨i3, hk, hw0, hw1, hw2⟩ := info_parts info_boolo
  replace hk := Lib.hid hk; replace hw0 := Lib.hid hw0; replace hw1 := Lib.hid hw1; replace hw2 := Lib.hid hw2
  have hTT1 : ¬ (T : Int) < (T : Int) := by omega
  replace hq := Lib.hid hq; replace hce := Lib.hid hce; replace hLq := Lib.hid hLq
  clear sh hr hok hsz hse
  go_enter Tryd.func16, Tryd.ntmps16
  go_wp2_with fail
  refine KSz.out.mono ?_; rintro e w' ⟨rfl, rfl⟩
  go_wp2_with fail
  go_loopw [15, 16, 17] (fun v15 v16 v17 wr => ∃ (t i M nb c15 c16 : Nat) (A15 A16 : Option Addr), v15 = .slice A15 M c15 ∧ v16 = .slice A16 nb c16 ∧ v17 = .int .i64 (i : Nat) ∧ t ≤ S ∧ i ≤ 16777216 ∧ M ≤ 16777216 ∧ nb ≤ 16777216 ∧ Hid (i = t * L) ∧ Hid (M = t * d) ∧ Hid (nb ≤ t * q) ∧ Hid (∀ x, x < t → Stp.csE k m (Stp.csAt k m ch s x) = 0) ∧ Hid (Below w.heap.size w wr) ∧ Hid (wr.ownsRow w.heap.size 5 1 (.slice A15 M c15) M ((Stp.outTo k m ch s t).map B8)) ∧ Hid (wr.ownsRow w.heap.size 3 1 (.slice A16 nb c16) nb ((Stp.badTo ce s (t * q)).map NV))) (fun _ _ v17 _ => T + 1 - (intOf v17).toNat)
  case atStart => exact ⟨0, 0, 0, 0, 0, 0, none, none, rfl, rfl, rfl, Nat.zero_le _, by omega, by omega, by omega, by show 0 = 0 * L; rw [Nat.zero_mul], by show 0 = 0 * d; rw [Nat.zero_mul], Nat.zero_le _, fun x hx => by omega, Below.refl _ _, by simpa [Hid, Stp.outTo] using World.ownsRow_nil w w.heap.size 5 1, by simpa [Hid, Stp.badTo] using World.ownsRow_nil w w.heap.size 3 1⟩
  case round =>
    obtain ⟨t, i, M, nb, c15, c16, A15, A16, rfl, rfl, rfl, htS, hiT, hM, hnb, HI, HM, HNB, HE, HB, HO, HD⟩ := hrel
    by_cases hlt : t < S
    · have hLT := SH.out.LT hlt
      have hdN := SH.out.dN hlt
      have hiLT : i + L ≤ T := by have := HI.out; omega
      have hL1 : 1 ≤ L := by rw [SH.out.hL]; exact Nat.mul_pos (by omega) (by omega)
      have hin : (i : Int) < (T : Int) := by omega
      have HMd : M + d ≤ N := by have := HM.out; omega
      have hcsl := Lib.hid (CS.out t hlt)
      have hcsg := Lib.hid (CG.out t)
      have hFEW := Lib.hid (fun hf => Stp.csE_few SH.out sl.out hlt hf)
      have hMORE := Lib.hid (fun hf => Stp.csE_more SH.out sl.out hlt hf)
      have hVL := Lib.hid (fun hf => Stp.csV_len SH.out sl.out hlt hf)
      have hFIRST := Lib.hid (fun hne => Stp.rdE_first (n := n) HE.out hne hlt)
      have hOUT := Lib.hid (Stp.outTo_step k m ch s t)
      rw [hq.out, hce.out] at hcsg hcsl
      rw [hq.out] at hFEW hMORE
      generalize hcs : Stp.csAt k m ch s t = cs at *
      replace hcs := Lib.hid hcs
      have hTQ : t * q + q ≤ 16777216 := by
        have h1 : (t + 1) * q ≤ (t + 1) * L := Nat.mul_le_mul_left _ (by rw [hLq.out]; exact Nat.le_mul_of_pos_right _ (by have := hce.out; omega))
        have h2 := HI.out
        rw [Nat.succ_mul, Nat.succ_mul, ← h2] at h1
        omega
      have hnbq : nb + q ≤ 16777216 := by have := HNB.out; omega
      clear hdN hLT CS CG
      go_wp2_with fail
      go_loopw [16, 18, 19, 20, 21] (fun v16 v18 v19 v20 v21 wr => ∃ (j nbj b c16 c18 c19 : Nat) (A16 A18 A19 : Option Addr), v16 = .slice A16 nbj c16 ∧ v18 = .slice A18 j c18 ∧ v19 = .slice A19 j c19 ∧ v20 = .int .i64 (b : Nat) ∧ v21 = .int .i64 (j : Nat) ∧ j ≤ q ∧ b ≤ j ∧ nbj ≤ nb + j ∧ Hid (b + (Rsp.gd (Stp.goodL cs) j).length = j) ∧ Hid (nbj ≤ t * q + j) ∧ Hid (Below w.heap.size w wr) ∧ Hid (wr.ownsRow w.heap.size 5 1 (.slice A15 M c15) M ((Stp.outTo k m ch s t).map B8)) ∧ Hid (wr.ownsRow w.heap.size 3 1 (.slice A16 nbj c16) nbj ((Stp.badTo ce s (t * q + j)).map NV)) ∧ Hid (Lists wr 0 w.heap.size A18 j c18 ((Stp.cutL cs).take j)) ∧ Hid (wr.ownsRow w.heap.size 4 1 (.slice A19 j c19) j (((Stp.goodL cs).take j).map Value.bool))) (fun _ _ _ _ v21 _ => q - (intOf v21).toNat)
      case atStart => exact ⟨0, nb, 0, c16, 0, 0, A16, none, none, rfl, rfl, rfl, rfl, rfl, Nat.zero_le _, by omega, by omega, rfl, HNB.out, HB, HO, HD, Lists.nil _ _ _ (Nat.zero_le _) HB.out.size, by simpa [Hid] using World.ownsRow_nil _ w.heap.size 4 1⟩
      case round =>
        clear HB HO HD
        obtain ⟨j, nbj, b, c16, c18, c19, A16, A18, A19, rfl, rfl, rfl, rfl, rfl, hjq, hbj, hnbj, HG, HNJ, HB, HO, HD, HL, HF⟩ := hrel
        by_cases hlt2 : j < q
        · have hlt2' : (j : Int) < (k : Int) + (m : Int) := by omega
          obtain ⟨jc, hjc⟩ : ∃ jc, j * ce = jc := ⟨_, rfl⟩
          have hj2 : (j + 1) * ce = jc + ce := by rw [Nat.succ_mul, hjc]
          have hjd : jc + ce ≤ L := by
            have := Nat.mul_le_mul_right ce (show j + 1 ≤ q from hlt2)
            rw [hj2, ← hLq.out] at this; exact this
          have hm1 : (j : Int) * (ce : Int) = (jc : Int) := by rw [← hjc, Int.natCast_mul]
          obtain ⟨f, hf⟩ : ∃ f, i + jc = f := ⟨_, rfl⟩
          have hf1 : (i : Int) + (jc : Int) = (f : Int) := by omega
          obtain ⟨g, hg⟩ : ∃ g, f + ce = g := ⟨_, rfl⟩
          have hg1 : (f : Int) + (ch : Int) + 4 = (g : Int) := by omega
          have hgT : g ≤ T := by omega
          have hfb : f ≤ 16777216 := by omega
          have hfe : f = (t * q + j) * ce := by rw [← hf, ← hjc, HI.out, hLq.out, Nat.add_mul, Nat.mul_assoc]
          have hquo : f / ce = t * q + j := by rw [hfe]; exact Nat.mul_div_cancel _ (by have := hce.out; omega)
          have hck : Hid ((s.drop f).take ce = Stp.chunkB s ce (t * q + j)) := by rw [Hid, hfe]; rfl
          have hget := hcsg.out j hlt2
          have hcl : Hid ((Stp.chunkB s ce (t * q + j)).length = ce) := hcsl.out.2 _ (List.mem_of_getElem? hget)
          have hcut := run_cut_lh (P := Tryd.prog) 27 5 i0 1 Tryd.underlying27 hi.out hz1.out A T c f g .i64 .i64 (by omega) (by omega)
          rw [show g - f = ce by omega] at hcut
          have hRC : Hid (Reads wr wr.heap.size 1 (cutA A c f 1) ce ((Stp.chunkB s ce (t * q + j)).map B8)) := by
            have h1 := ((RB.out wr HB.out).more HB.out.size).cutN (show f ≤ T by omega) hnc
            have h2 := h1.takeN (show ce ≤ T - f by omega)
            rw [hck.out] at h2
            exact h2
          have KC := Lib.hid (refCut_any (cutA A c f 1) ce (c - f) (Stp.chunkB s ce (t * q + j)) wr hRC.out (by omega) (by omega))
          unfold SlErr at KC
          have TK1 : Hid ((Stp.cutL cs).take (j + 1) = (Stp.cutL cs).take j ++ [Crcp.cutV (Stp.chunkB s ce (t * q + j))]) := take_snoc (Stp.cutL_get hget)
          have TK2 : Hid ((Stp.goodL cs).take (j + 1) = (Stp.goodL cs).take j ++ [Stp.goodB (Stp.chunkB s ce (t * q + j))]) := take_snoc (Stp.goodL_get hget)
          have TK3 := Lib.hid (Stp.badTo_step ce s (t * q + j))
          have TK4 : Hid ((Rsp.gd (Stp.goodL cs) (j + 1)).length = (Rsp.gd (Stp.goodL cs) j).length + (if Stp.goodB (Stp.chunkB s ce (t * q + j)) = true then 1 else 0)) := by
            have := Stp.gd_succ (Stp.goodL cs) j
            rw [List.getD_eq_getElem?_getD, Stp.goodL_get hget] at this
            exact this
          have hgd : Stp.goodB (Stp.chunkB s ce (t * q + j)) = decide (Crcp.cutE (Stp.chunkB s ce (t * q + j)) = 0) := rfl
          have hVle : (Crcp.cutV (Stp.chunkB s ce (t * q + j))).length ≤ ch := Stp.cutV_le (by rw [hcl.out]; exact hce.out.symm)
          obtain ⟨B, hBe⟩ : ∃ B, Stp.chunkB s ce (t * q + j) = B := ⟨_, rfl⟩
          rw [hBe] at hgd hVle KC TK1 TK2 TK3 TK4
          have hc1 : j + 1 ≤ maxLen := by unfold maxLen; omega
          have hc2 : (j + 1) * 24 ≤ 140737488355328 := by omega
          have hk1 : j + 1 ≤ maxLen := by unfold maxLen; omega
          have hk2 : (j + 1) * 1 ≤ 140737488355328 := by omega
          have hm1' : nbj + 1 ≤ maxLen := by unfold maxLen; omega
          have hm2' : (nbj + 1) * 8 ≤ 140737488355328 := by omega
          have hcf : (f : Int) ≤ (g : Int) := by omega
          have hcg : (g : Int) ≤ (c : Int) := by omega
          replace hBe := Lib.hid hBe; replace hfe := Lib.hid hfe; replace hf := Lib.hid hf; replace hg := Lib.hid hg; replace hjc := Lib.hid hjc; replace hj2 := Lib.hid hj2
          have hquo' : ((f : Int)).tdiv (ce : Int) = ((t * q + j : Nat) : Int) := by
            rw [Int.tdiv_eq_ediv_of_nonneg (by omega), ← hquo]; exact (Int.natCast_ediv _ _).symm
          have hce0 : ((ce : Int) == 0) = false := by simp; have := hce.out; omega
          have hce1 : ¬ (ce : Int) = 0 := by have := hce.out; omega
          obtain ⟨x, hx⟩ : ∃ x, t * q + j = x := ⟨_, rfl⟩
          rw [hx] at hquo' TK3
          have hxb : x ≤ 16777216 := by omega
          have HXJ : Hid (t * q + (j + 1) = x + 1) := by rw [Hid, ← hx]; omega
          rw [hx] at HD HNJ
          replace hx := Lib.hid hx; replace hquo := Lib.hid hquo
          clear hRC hget hcl hck
          obtain ⟨lv, hlv⟩ : ∃ lv, (Crcp.cutV B).length = lv := ⟨_, rfl⟩
          rw [hlv] at KC hVle
          replace hlv := Lib.hid hlv
          cases hgb : Stp.goodB B with
          | true =>
            have he : Crcp.cutE B = 0 := of_decide_eq_true (hgd ▸ hgb)
            rw [he] at KC
            rw [hgb] at TK2 TK3 TK4
            rw [if_pos rfl, List.append_nil] at TK3
            rw [if_pos rfl] at TK4
            clear hgd hgb he
            generalize Crcp.cutV B = V at *
            go_wp2_with fail
            refine KC.out.mono ?_; rintro e wc ⟨Ap, cp, rfl, hfc⟩
            have HBc := Lib.hid (below_then HB.out hfc.2)
            have HOc := Lib.hid (own_belowL HO.out hfc.2)
            have HDc := Lib.hid (own_belowL HD.out hfc.2)
            have HFc := Lib.hid (own_belowL HF.out hfc.2)
            have HLc := Lib.hid (HL.out.below hfc.2)
            have HRc := Lib.hid (RowOK.own (b0 := 0) (own_base (base' := w.heap.size) hfc.1 HB.out.size))
            have hln : Hid (V.length = lv) := hlv
            clear hfc KC HB HO HD HF HL
            have hLa := HLc.out.below ((Below.refl _ wc).alloc (Nat.le_refl _) (.cells #[.slice Ap lv cp] 27))
            have hRa := RowOK.below (HRc.out.2) HLc.out.b0s HLc.out.bs ((Below.refl _ wc).alloc (Nat.le_refl _) (.cells #[.slice Ap lv cp] 27))
            obtain ⟨⟨vs, hv1, hv2, hv3⟩, hvb, hv0⟩ := hLa
            replace hv1 := Lib.hid hv1; replace hv2 := Lib.hid hv2; replace hv3 := Lib.hid hv3; replace hvb := Lib.hid hvb; replace hv0 := Lib.hid hv0; replace hRa := Lib.hid hRa
            clear HLc HRc
            go_wp2_with (first | (at_builtin; refine wpList_append_any _ rfl (.tmp 85) (.tmp 87) 55 rfl w.heap.size 27 i1 (.slice none 0 0) 1 24 Tryd.underlying55 hi_.out hy0.out hy1.out hy2.out rfl (by omega) A18 j c18 _ rfl hv1.out (wc.heap.size + 1) _ 1 1 _ rfl (reads_one wc _ _) (one_one rfl) hc1 hc2 hvb.out ?_; intro A3 c3 w4 ho4 hgq _hsq; have hB4 : Below w.heap.size w w4 := below_app (HBc.out.alloc HBc.out.size (.cells #[.slice Ap lv cp] 27)) hgq hv1.out hvb.out; have hP4 := Lists.pushN hln.out hRa.out hv1.out hv2.out hv3.out hv0.out hvb.out ho4 hgq; have hO4 := Lib.hid (own_apart (HOc.out.alloc _) hv1.out (by decide) hgq); have hD4 := Lib.hid (own_apart (HDc.out.alloc _) hv1.out (by decide) hgq); have hF4 := Lib.hid (own_apart (HFc.out.alloc _) hv1.out (by decide) hgq); replace hB4 := Lib.hid hB4; replace hP4 := Lib.hid hP4; clear hgq _hsq ho4 hv1 hv2 hv3 hvb hv0 hRa) | (at_builtin; refine wpList_append_any _ rfl (.tmp 89) (.tmp 92) 67 rfl w.heap.size 4 i3 (.bool false) 1 1 Tryd.underlying67 hk.out hw0.out hw1.out hw2.out rfl (by omega) A19 j c19 _ rfl (hF4.out.alloc (.cells #[.bool true] 4)) (w4.heap.size + 1) _ 1 1 _ rfl (reads_one w4 _ _) (one_one rfl) hk1 hk2 (show w.heap.size ≤ (w4.alloc (.cells #[.bool true] 4)).heap.size from Nat.le_trans hB4.out.size (by simp)) ?_; intro A1 c1 w2 ho2 hgq _hsq; have hB2 : Below w.heap.size w w2 := below_app (hB4.out.alloc hB4.out.size (.cells #[.bool true] 4)) hgq (hF4.out.alloc (.cells #[.bool true] 4)) (show w.heap.size ≤ (w4.alloc (.cells #[.bool true] 4)).heap.size from Nat.le_trans hB4.out.size (by simp)); have hL2 := Lib.hid (Lists.apart (hP4.out.below ((Below.refl _ w4).alloc (Nat.le_refl _) _)) (hF4.out.alloc _) (by decide) (by decide) (Nat.le_refl _) hgq); have hO2 := Lib.hid (own_apart (hO4.out.alloc _) (hF4.out.alloc _) (by decide) hgq); have hD2 := Lib.hid (own_apart (hD4.out.alloc _) (hF4.out.alloc _) (by decide) hgq); replace ho2 := Lib.hid ho2; replace hB2 := Lib.hid hB2; clear hgq _hsq))
            go_roundw
            case rel =>
              refine ⟨j + 1, nbj, b, c16, c3, c1, A16, A3, A1, rfl, rfl, rfl, rfl, by go_num, by omega, by omega, by omega, ?_, ?_, hB2, hO2, ?_, ?_, ?_⟩
              · show b + _ = j + 1
                rw [TK4.out, ← Nat.add_assoc, HG.out]
              · show nbj ≤ t * q + (j + 1)
                rw [HXJ.out]; exact Nat.le_succ_of_le HNJ.out
              · rw [HXJ.out, TK3.out]; exact hD2
              · rw [TK1.out]; exact hL2
              · rw [TK2.out, List.map_append]; exact ho2
            case measure => simp [intOf]; omega
          | false =>
            have he : Crcp.cutE B ≠ 0 := of_decide_eq_false (hgd ▸ hgb)
            rw [hgb] at TK2 TK3 TK4
            rw [if_neg (by decide)] at TK3
            rw [if_neg (by decide)] at TK4
            obtain ⟨er, her⟩ : ∃ er, Crcp.cutE B = er := ⟨_, rfl⟩
            rw [her] at KC he
            have e1 : (er == (0 : Int)) = false := by simp [he]
            have e2 : (er != (0 : Int)) = true := by simp [he]
            clear hgd hgb he her
            generalize Crcp.cutV B = V at *
            go_wp2_with fail
            refine KC.out.mono ?_; rintro e wc ⟨Ap, cp, rfl, hfc⟩
            have HBc := Lib.hid (below_then HB.out hfc.2)
            have HOc := Lib.hid (own_belowL HO.out hfc.2)
            have HDc := Lib.hid (own_belowL HD.out hfc.2)
            have HFc := Lib.hid (own_belowL HF.out hfc.2)
            have HLc := Lib.hid (HL.out.below hfc.2)
            have HRc := Lib.hid (RowOK.own (b0 := 0) (own_base (base' := w.heap.size) hfc.1 HB.out.size))
            have hln : Hid (V.length = lv) := hlv
            clear hfc KC HB HO HD HF HL
            have hLa := HLc.out.below ((Below.refl _ wc).alloc (Nat.le_refl _) (.cells #[.slice Ap lv cp] 27))
            have hRa := RowOK.below (HRc.out.2) HLc.out.b0s HLc.out.bs ((Below.refl _ wc).alloc (Nat.le_refl _) (.cells #[.slice Ap lv cp] 27))
            obtain ⟨⟨vs, hv1, hv2, hv3⟩, hvb, hv0⟩ := hLa
            replace hv1 := Lib.hid hv1; replace hv2 := Lib.hid hv2; replace hv3 := Lib.hid hv3; replace hvb := Lib.hid hvb; replace hv0 := Lib.hid hv0; replace hRa := Lib.hid hRa
            clear HLc HRc
            have hm1 := hm1'
            have hm2 := hm2'
            go_wp2_with (first | (at_builtin; refine wpList_append_any _ rfl (.tmp 85) (.tmp 87) 55 rfl w.heap.size 27 i1 (.slice none 0 0) 1 24 Tryd.underlying55 hi_.out hy0.out hy1.out hy2.out rfl (by omega) A18 j c18 _ rfl hv1.out (wc.heap.size + 1) _ 1 1 _ rfl (reads_one wc _ _) (one_one rfl) hc1 hc2 hvb.out ?_; intro A3 c3 w4 ho4 hgq _hsq; have hB4 : Below w.heap.size w w4 := below_app (HBc.out.alloc HBc.out.size (.cells #[.slice Ap lv cp] 27)) hgq hv1.out hvb.out; have hP4 := Lists.pushN hln.out hRa.out hv1.out hv2.out hv3.out hv0.out hvb.out ho4 hgq; have hO4 := Lib.hid (own_apart (HOc.out.alloc _) hv1.out (by decide) hgq); have hD4 := Lib.hid (own_apart (HDc.out.alloc _) hv1.out (by decide) hgq); have hF4 := Lib.hid (own_apart (HFc.out.alloc _) hv1.out (by decide) hgq); replace hB4 := Lib.hid hB4; replace hP4 := Lib.hid hP4; clear hgq _hsq ho4 hv1 hv2 hv3 hvb hv0 hRa) | (at_builtin; refine wpList_append_any _ rfl (.tmp 89) (.tmp 92) 67 rfl w.heap.size 4 i3 (.bool false) 1 1 Tryd.underlying67 hk.out hw0.out hw1.out hw2.out rfl (by omega) A19 j c19 _ rfl (hF4.out.alloc (.cells #[.bool false] 4)) (w4.heap.size + 1) _ 1 1 _ rfl (reads_one w4 _ _) (one_one rfl) hk1 hk2 (show w.heap.size ≤ (w4.alloc (.cells #[.bool false] 4)).heap.size from Nat.le_trans hB4.out.size (by simp)) ?_; intro A1 c1 w2 ho2 hgq _hsq; have hB2 : Below w.heap.size w w2 := below_app (hB4.out.alloc hB4.out.size (.cells #[.bool false] 4)) hgq (hF4.out.alloc (.cells #[.bool false] 4)) (show w.heap.size ≤ (w4.alloc (.cells #[.bool false] 4)).heap.size from Nat.le_trans hB4.out.size (by simp)); have hL2 := Lib.hid (Lists.apart (hP4.out.below ((Below.refl _ w4).alloc (Nat.le_refl _) _)) (hF4.out.alloc _) (by decide) (by decide) (Nat.le_refl _) hgq); have hO2 := Lib.hid (own_apart (hO4.out.alloc _) (hF4.out.alloc _) (by decide) hgq); have hD2 := Lib.hid (own_apart (hD4.out.alloc _) (hF4.out.alloc _) (by decide) hgq); replace ho2 := Lib.hid ho2; replace hB2 := Lib.hid hB2; clear hgq _hsq) | (at_builtin; refine wpList_append_any _ rfl (.tmp 96) (.tmp 101) 32 rfl w.heap.size 3 i2 (.int .i64 0) 1 8 Tryd.underlying32 hj.out hx0.out hx1.out hx2.out rfl (by omega) A16 nbj c16 _ rfl (hD2.out.alloc (.cells #[.int .i64 (x : Int)] 3)) (w2.heap.size + 1) _ 1 1 _ rfl (reads_one w2 _ _) (one_one rfl) hm1 hm2 (show w.heap.size ≤ (w2.alloc (.cells #[.int .i64 (x : Int)] 3)).heap.size from Nat.le_trans hB2.out.size (by simp)) ?_; intro A2 c2 w3 ho3 hgq _hsq; have hB3 : Below w.heap.size w w3 := below_app (hB2.out.alloc hB2.out.size (.cells #[.int .i64 (x : Int)] 3)) hgq (hD2.out.alloc (.cells #[.int .i64 (x : Int)] 3)) (show w.heap.size ≤ (w2.alloc (.cells #[.int .i64 (x : Int)] 3)).heap.size from Nat.le_trans hB2.out.size (by simp)); have hL3 := Lib.hid (Lists.apart (hL2.out.below ((Below.refl _ w2).alloc (Nat.le_refl _) _)) (hD2.out.alloc _) (by decide) (by decide) (Nat.le_refl _) hgq); have hO3 := Lib.hid (own_apart (hO2.out.alloc _) (hD2.out.alloc _) (by decide) hgq); have hF3 := Lib.hid (own_apart (ho2.out.alloc _) (hD2.out.alloc _) (by decide) hgq); replace ho3 := Lib.hid ho3; replace hB3 := Lib.hid hB3; clear hgq _hsq))
            go_roundw
            case rel =>
              refine ⟨j + 1, nbj + 1, b + 1, c2, c3, c1, A2, A3, A1, rfl, rfl, rfl, by go_num, by go_num, by omega, by omega, by omega, ?_, ?_, hB3, hO3, ?_, ?_, ?_⟩
              · show b + 1 + _ = j + 1
                have h1 := HG.out; have h2 := TK4.out; omega
              · show nbj + 1 ≤ t * q + (j + 1)
                rw [HXJ.out]; exact Nat.succ_le_succ HNJ.out
              · rw [HXJ.out, TK3.out, List.map_append]; exact ho3
              · rw [TK1.out]; exact hL3
              · rw [TK2.out, List.map_append]; exact hF3
            case measure => simp [intOf]; omega
        · have hjq : j = q := by omega
          subst hjq
          have hge2 : ¬ (j : Int) < (k : Int) + (m : Int) := by omega
          have hge3 : ¬ (j : Int) < (j : Int) := by omega
          have hcl : cs.length = j := hq.out ▸ hcsl.out.1
          have HQ2 : Hid (k + m = j) := hq
          rw [List.take_of_length_le (by rw [Stp.cutL_len, hcl]; exact Nat.le_refl _)] at HL
          rw [List.take_of_length_le (by rw [Stp.goodL_len, hcl]; exact Nat.le_refl _)] at HF
          by_cases hbm : m < b
          · have hbm' : (m : Int) < (b : Int) := by omega
            have hfew : (Rsp.gd (Stp.goodL cs) j).length < k := by have := HG.out; have := HQ2.out; omega
            have h12 := hFEW.out hfew
            have hF := hFIRST.out (by rw [h12]; decide)
            rw [h12] at hF
            replace hF := Lib.hid hF
            clear h12 hfew
            go_wp2_with fail
            go_ret3
            rw [hF.out.1, hF.out.2.1, hF.out.2.2]
            exact RdRet.nil HB.out
          · have hbm' : ¬ (m : Int) < (b : Int) := by omega
            have hmore : ¬ (Rsp.gd (Stp.goodL cs) j).length < k := by have := HG.out; have := HQ2.out; omega
            obtain ⟨hM0, hM2⟩ := hMORE.out hmore
            have hV := Stp.cs_mendV k1 HQ2.out km hcl (fun c hc => (hcsl.out.2 c hc).trans hce.out.symm) hM0
            have hVd := hVL.out hM0
            have KM := refMend_in k m j A18 A19 c18 c19 (Stp.cutL cs) (Stp.goodL cs) wr HQ2.out k1 km HL.out.rows8 (Reads.of_own HF.out) (fun x hx => by
              unfold Stp.cutL at hx
              obtain ⟨y, hy, rfl⟩ := List.mem_map.1 hx
              have := Stp.cutV_le ((hcsl.out.2 y hy).trans hce.out.symm); omega)
            rw [hM0] at KM
            unfold LsErr at KM
            have hCV : Stp.csV k m cs = ((Rsp.mendV k m (Stp.cutL cs) (Stp.goodL cs)).take k).flatten := rfl
            rw [hCV] at hVd hOUT
            generalize Rsp.mendV k m (Stp.cutL cs) (Stp.goodL cs) = V at *
            obtain ⟨hVn, hVl⟩ := hV
            rw [hVn] at KM
            replace KM := Lib.hid KM
            have VN := Lib.hid hVn
            have VL := Lib.hid hVl
            have VD := Lib.hid hVd
            have M2 := Lib.hid hM2
            have hgl : Hid ((Stp.goodL cs).length = j) := by rw [Hid, Stp.goodL_len]; exact hcl
            have hpl : Hid ((Stp.cutL cs).length = j) := by rw [Hid, Stp.cutL_len]; exact hcl
            generalize Stp.cutL cs = PA at *
            generalize Stp.goodL cs = GO at *
            clear hVn hVl hVd hM2 hM0 hmore hCV hFEW hMORE hVL hcl hcsl hcsg HG
            go_wp2_with fail
            refine KM.out.mono ?_; rintro e we ⟨Ay, cy, rfl, hly, hBe'⟩
            have HBe := Lib.hid (below_then HB.out hBe')
            have HOe := Lib.hid (own_belowL HO.out hBe')
            have HDe := Lib.hid (own_belowL HD.out hBe')
            have HLe := Lib.hid (HL.out.below hBe')
            have HFe := Lib.hid (own_belowL HF.out hBe')
            have HYe := Lib.hid hly
            have hbw : Hid (w.heap.size ≤ wr.heap.size) := HB.out.size
            have hOlt := Lib.hid (own_lt HO.out)
            have hDlt := Lib.hid (own_lt HD.out)
            have hwe : Hid (wr.heap.size ≤ we.heap.size) := hBe'.size
            obtain ⟨Wb, hWb⟩ : ∃ Wb, Wb = wr := ⟨_, rfl⟩
            subst hWb
            clear KM hly hBe' HB HO HD HL HF
            go_wp2_with fail
            go_loopw [27] (fun v27 wr => ∃ (x : Nat), v27 = .int .i64 (x : Nat) ∧ x ≤ j ∧ Hid (∀ y, y < x → GO.getD y false = true → V.getD y [] = PA.getD y []) ∧ Hid (Dr we wr)) (fun v27 _ => j - (intOf v27).toNat)
            case atStart => exact ⟨0, rfl, Nat.zero_le _, fun y hy => by omega, Dr.refl _⟩
            case round =>
              obtain ⟨x, rfl, hxj, HX, HDr⟩ := hrel
              by_cases hlt3 : x < j
              · have hlt3' : (x : Int) < (k : Int) + (m : Int) := by omega
                have hlt3q : (x : Int) < (j : Int) := by omega
                have hx0 : (0 : Int) ≤ (x : Int) := by omega
                obtain ⟨ad1, ys, A1, n1, c1, hA1, -, hys, hc1, -, -, hr1⟩ := HYe.out.rows8.row hlt3
                obtain ⟨ad2, zs, A2, n2, c2, hA2, -, hzs, hc2, -, -, hr2⟩ := HLe.out.rows8.row hlt3
                obtain ⟨ad3, u, hA3, -, hu, hc3⟩ := (Reads.of_own HFe.out).at_ hlt3
                rw [List.getElem?_map, List.getElem?_eq_getElem (by rw [hgl.out]; exact hlt3)] at hu
                have hu' : Value.bool (GO[x]'(by rw [hgl.out]; exact hlt3)) = u := by simpa using hu
                have hGx : GO.getD x false = GO[x]'(by rw [hgl.out]; exact hlt3) := by rw [List.getD_eq_getElem?_getD, List.getElem?_eq_getElem (by rw [hgl.out]; exact hlt3)]; rfl
                obtain ⟨f, hf⟩ : ∃ f, GO[x]'(by rw [hgl.out]; exact hlt3) = f := ⟨_, rfl⟩
                rw [hf] at hu' hGx
                subst hu'
                subst hA1 hA2 hA3
                obtain ⟨sa, hsa⟩ : ∃ sa : ByteArray, (⟨ys.toArray⟩ : ByteArray) = sa := ⟨_, rfl⟩
                obtain ⟨sb, hsb⟩ : ∃ sb : ByteArray, (⟨zs.toArray⟩ : ByteArray) = sb := ⟨_, rfl⟩
                have SD : Hid (∀ W, Dr we W → W.cell? (ad3.add x) = some (.bool f) ∧ W.cell? (ad1.add x) = some (.slice A1 n1 c1) ∧ W.cell? (ad2.add x) = some (.slice A2 n2 c2) ∧ (convert 27 9 (.slice A1 n1 c1)).run Tryd.prog W = .ok (.string sa) W ∧ (convert 27 9 (.slice A2 n2 c2)).run Tryd.prog W = .ok (.string sb) W) := fun W hW => by
                  have hb : Below we.heap.size we W := hW.below _
                  refine ⟨(hb.cell (p := ad3.add x) (lt_of_cell hc3)).trans hc3, (hb.cell (p := ad1.add x) (lt_of_cell hc1)).trans hc1, (hb.cell (p := ad2.add x) (lt_of_cell hc2)).trans hc2, ?_, ?_⟩
                  · rw [← hsa]; exact run_str _ _ 5 Tryd.underlying27 Tryd.underlying5 Tryd.underlying9 (hr1.below hb)
                  · rw [← hsb]; exact run_str _ _ 5 Tryd.underlying27 Tryd.underlying5 Tryd.underlying9 (hr2.below hb)
                have hV1 : V.getD x [] = ys := by rw [List.getD_eq_getElem?_getD, hys]; rfl
                have hP1 : PA.getD x [] = zs := by rw [List.getD_eq_getElem?_getD, hzs]; rfl
                have hDr1 : Dr we wr.drew := HDr.out.drewN 1
                have hS0 := SD.out _ hDr1
                replace hDr1 := Lib.hid hDr1
                clear hu hf hys hzs hc1 hc2 hc3 hr1 hr2
                cases f with
                | false =>
                  go_wp2_with fail
                  refine region_E 17 (fun W => W.cell? (ad3.add x) = some (.bool false)) (by kernel_rfl) hS0.1 (fun hHeld => ?_)
                  refine took 0 (v := ?_) rfl (by kernel_rfl) (by kernel_rfl) (by kernel_rfl) (by kernel_rfl) (fun _ _ _ h => h) (by rfl) (by assumption) ?_ ?_
                  rotate_left
                  · (intro W hSw; (try dsimp only at hSw); go_simp; first | done | with_reducible rfl)
                  try simp only [Act.put, List.setIfInBounds_toArray, List.set_cons_zero, List.set_cons_succ]
                  refine took 1 (v := ?_) rfl (by kernel_rfl) (by kernel_rfl) (by kernel_rfl) (by kernel_rfl) (fun _ _ _ h => h) (by rfl) (by assumption) ?_ ?_
                  rotate_left
                  · (intro W hSw; (try dsimp only at hSw); go_simp; first | done | with_reducible rfl)
                  try simp only [Act.put, List.setIfInBounds_toArray, List.set_cons_zero, List.set_cons_succ]
                  refine took 2 (v := ?_) rfl (by kernel_rfl) (by kernel_rfl) (by kernel_rfl) (by kernel_rfl) (fun _ _ _ h => h) (by rfl) (by assumption) ?_ ?_
                  rotate_left
                  · (intro W hSw; (try dsimp only at hSw); go_simp; first | done | with_reducible rfl)
                  try simp only [Act.put, List.setIfInBounds_toArray, List.set_cons_zero, List.set_cons_succ]
                  refine took 3 (v := ?_) rfl (by kernel_rfl) (by kernel_rfl) (by kernel_rfl) (by kernel_rfl) (fun _ _ _ h => h) (by rfl) (by assumption) ?_ ?_
                  rotate_left
                  · (intro W hSw; (try dsimp only at hSw); go_simp; first | done | with_reducible rfl)
                  try simp only [Act.put, List.setIfInBounds_toArray, List.set_cons_zero, List.set_cons_succ]
                  refine took 4 (v := ?_) rfl (by kernel_rfl) (by kernel_rfl) (by kernel_rfl) (by kernel_rfl) (fun _ _ _ h => h) (by rfl) (by assumption) ?_ ?_
                  rotate_left
                  · (intro W hSw; (try dsimp only at hSw); go_simp; first | done | with_reducible rfl)
                  try simp only [Act.put, List.setIfInBounds_toArray, List.set_cons_zero, List.set_cons_succ]
                  refine passed 5 rfl (by kernel_rfl) (by kernel_rfl) (by kernel_rfl) (by kernel_rfl) (fun _ _ _ h => h) (by rfl) (by assumption) ?_
                  try simp only [Act.put, List.setIfInBounds_toArray, List.set_cons_zero, List.set_cons_succ]
                  refine passed 6 rfl (by kernel_rfl) (by kernel_rfl) (by kernel_rfl) (by kernel_rfl) (fun _ _ _ h => h) (by rfl) (by assumption) ?_
                  try simp only [Act.put, List.setIfInBounds_toArray, List.set_cons_zero, List.set_cons_succ]
                  refine passed 7 rfl (by kernel_rfl) (by kernel_rfl) (by kernel_rfl) (by kernel_rfl) (fun _ _ _ h => h) (by rfl) (by assumption) ?_
                  try simp only [Act.put, List.setIfInBounds_toArray, List.set_cons_zero, List.set_cons_succ]
                  refine passed 8 rfl (by kernel_rfl) (by kernel_rfl) (by kernel_rfl) (by kernel_rfl) (fun _ _ _ h => h) (by rfl) (by assumption) ?_
                  try simp only [Act.put, List.setIfInBounds_toArray, List.set_cons_zero, List.set_cons_succ]
                  refine passed 9 rfl (by kernel_rfl) (by kernel_rfl) (by kernel_rfl) (by kernel_rfl) (fun _ _ _ h => h) (by rfl) (by assumption) ?_
                  try simp only [Act.put, List.setIfInBounds_toArray, List.set_cons_zero, List.set_cons_succ]
                  refine passed 10 rfl (by kernel_rfl) (by kernel_rfl) (by kernel_rfl) (by kernel_rfl) (fun _ _ _ h => h) (by rfl) (by assumption) ?_
                  try simp only [Act.put, List.setIfInBounds_toArray, List.set_cons_zero, List.set_cons_succ]
                  refine passed 11 rfl (by kernel_rfl) (by kernel_rfl) (by kernel_rfl) (by kernel_rfl) (fun _ _ _ h => h) (by rfl) (by assumption) ?_
                  try simp only [Act.put, List.setIfInBounds_toArray, List.set_cons_zero, List.set_cons_succ]
                  refine passed 12 rfl (by kernel_rfl) (by kernel_rfl) (by kernel_rfl) (by kernel_rfl) (fun _ _ _ h => h) (by rfl) (by assumption) ?_
                  try simp only [Act.put, List.setIfInBounds_toArray, List.set_cons_zero, List.set_cons_succ]
                  refine passed 13 rfl (by kernel_rfl) (by kernel_rfl) (by kernel_rfl) (by kernel_rfl) (fun _ _ _ h => h) (by rfl) (by assumption) ?_
                  try simp only [Act.put, List.setIfInBounds_toArray, List.set_cons_zero, List.set_cons_succ]
                  refine passed 14 rfl (by kernel_rfl) (by kernel_rfl) (by kernel_rfl) (by kernel_rfl) (fun _ _ _ h => h) (by rfl) (by assumption) ?_
                  try simp only [Act.put, List.setIfInBounds_toArray, List.set_cons_zero, List.set_cons_succ]
                  refine passed 15 rfl (by kernel_rfl) (by kernel_rfl) (by kernel_rfl) (by kernel_rfl) (fun _ _ _ h => h) (by rfl) (by assumption) ?_
                  try simp only [Act.put, List.setIfInBounds_toArray, List.set_cons_zero, List.set_cons_succ]
                  refine took 16 (v := ?_) rfl (by kernel_rfl) (by kernel_rfl) (by kernel_rfl) (by kernel_rfl) (fun _ _ _ h => h) (by rfl) (by assumption) ?_ ?_
                  rotate_left
                  · (intro W hSw; (try dsimp only at hSw); go_simp; first | done | with_reducible rfl)
                  try simp only [Act.put, List.setIfInBounds_toArray, List.set_cons_zero, List.set_cons_succ]
                  refine allDone (by kernel_rfl) ?_ _
                  clear hHeld hS0 SD
                  go_wp2_with fail
                  go_roundw
                  case rel =>
                    refine ⟨x + 1, by go_num, by omega, fun y hy hg => ?_, hDr1⟩
                    by_cases h : y < x
                    · exact HX.out y h hg
                    · have : y = x := by omega
                      subst this
                      rw [hGx] at hg; cases hg
                  case measure => simp [intOf]; omega
                | true =>
                  by_cases hyz : ys = zs
                  · have heq : (sa == sb) = true := by rw [← hsa, ← hsb, bytes_beq]; exact decide_eq_true hyz
                    have heL : (sa.toList == sb.toList) = true := by rw [bytes_beqL hsa hsb]; exact decide_eq_true hyz
                    have hne : (sa != sb) = false := by unfold bne; rw [heq]; rfl
                    replace hsa := Lib.hid hsa; replace hsb := Lib.hid hsb; replace hyz := Lib.hid hyz
                    go_wp2_with fail
                    refine region_E 17 (fun W => W.cell? (ad3.add x) = some (.bool true) ∧ W.cell? (ad1.add x) = some (.slice A1 n1 c1) ∧ W.cell? (ad2.add x) = some (.slice A2 n2 c2) ∧ (convert 27 9 (.slice A1 n1 c1)).run Tryd.prog W = .ok (.string sa) W ∧ (convert 27 9 (.slice A2 n2 c2)).run Tryd.prog W = .ok (.string sb) W) (by kernel_rfl) hS0 (fun hHeld => ?_)
                    refine took 0 (v := ?_) rfl (by kernel_rfl) (by kernel_rfl) (by kernel_rfl) (by kernel_rfl) (fun _ _ _ h => h) (by rfl) (by assumption) ?_ ?_
                    rotate_left
                    · (intro W hSw; (try dsimp only at hSw); go_simp; first | done | with_reducible rfl)
                    try simp only [Act.put, List.setIfInBounds_toArray, List.set_cons_zero, List.set_cons_succ]
                    refine took 1 (v := ?_) rfl (by kernel_rfl) (by kernel_rfl) (by kernel_rfl) (by kernel_rfl) (fun _ _ _ h => h) (by rfl) (by assumption) ?_ ?_
                    rotate_left
                    · (intro W hSw; (try dsimp only at hSw); go_simp; first | done | with_reducible rfl)
                    try simp only [Act.put, List.setIfInBounds_toArray, List.set_cons_zero, List.set_cons_succ]
                    refine took 2 (v := ?_) rfl (by kernel_rfl) (by kernel_rfl) (by kernel_rfl) (by kernel_rfl) (fun _ _ _ h => h) (by rfl) (by assumption) ?_ ?_
                    rotate_left
                    · (intro W hSw; (try dsimp only at hSw); go_simp; first | done | with_reducible rfl)
                    try simp only [Act.put, List.setIfInBounds_toArray, List.set_cons_zero, List.set_cons_succ]
                    refine took 3 (v := ?_) rfl (by kernel_rfl) (by kernel_rfl) (by kernel_rfl) (by kernel_rfl) (fun _ _ _ h => h) (by rfl) (by assumption) ?_ ?_
                    rotate_left
                    · (intro W hSw; (try dsimp only at hSw); go_simp; first | done | with_reducible rfl)
                    try simp only [Act.put, List.setIfInBounds_toArray, List.set_cons_zero, List.set_cons_succ]
                    refine took 4 (v := ?_) rfl (by kernel_rfl) (by kernel_rfl) (by kernel_rfl) (by kernel_rfl) (fun _ _ _ h => h) (by rfl) (by assumption) ?_ ?_
                    rotate_left
                    · (intro W hSw; (try dsimp only at hSw); go_simp; first | done | with_reducible rfl)
                    try simp only [Act.put, List.setIfInBounds_toArray, List.set_cons_zero, List.set_cons_succ]
                    refine took 5 (v := ?_) rfl (by kernel_rfl) (by kernel_rfl) (by kernel_rfl) (by kernel_rfl) (fun _ _ _ h => h) (by rfl) (by assumption) ?_ ?_
                    rotate_left
                    · (intro W hSw; (try dsimp only at hSw); go_simp; first | done | with_reducible rfl)
                    try simp only [Act.put, List.setIfInBounds_toArray, List.set_cons_zero, List.set_cons_succ]
                    refine took 6 (v := ?_) rfl (by kernel_rfl) (by kernel_rfl) (by kernel_rfl) (by kernel_rfl) (fun _ _ _ h => h) (by rfl) (by assumption) ?_ ?_
                    rotate_left
                    · (intro W hSw; (try dsimp only at hSw); go_simp; first | done | with_reducible rfl)
                    try simp only [Act.put, List.setIfInBounds_toArray, List.set_cons_zero, List.set_cons_succ]
                    refine took 7 (v := ?_) rfl (by kernel_rfl) (by kernel_rfl) (by kernel_rfl) (by kernel_rfl) (fun _ _ _ h => h) (by rfl) (by assumption) ?_ ?_
                    rotate_left
                    · (intro W hSw; (try dsimp only at hSw); go_simp; first | done | with_reducible rfl)
                    try simp only [Act.put, List.setIfInBounds_toArray, List.set_cons_zero, List.set_cons_succ]
                    refine took 8 (v := ?_) rfl (by kernel_rfl) (by kernel_rfl) (by kernel_rfl) (by kernel_rfl) (fun _ _ _ h => h) (by rfl) (by assumption) ?_ ?_
                    rotate_left
                    · (intro W hSw; (try dsimp only at hSw); go_simp; first | done | with_reducible rfl)
                    try simp only [Act.put, List.setIfInBounds_toArray, List.set_cons_zero, List.set_cons_succ]
                    refine took 9 (v := ?_) rfl (by kernel_rfl) (by kernel_rfl) (by kernel_rfl) (by kernel_rfl) (fun _ _ _ h => h) (by rfl) (by assumption) ?_ ?_
                    rotate_left
                    · (intro W hSw; (try dsimp only at hSw); go_simp; first | done | with_reducible rfl)
                    try simp only [Act.put, List.setIfInBounds_toArray, List.set_cons_zero, List.set_cons_succ]
                    refine took 10 (v := ?_) rfl (by kernel_rfl) (by kernel_rfl) (by kernel_rfl) (by kernel_rfl) (fun _ _ _ h => h) (by rfl) (by assumption) ?_ ?_
                    rotate_left
                    · (intro W hSw; (try dsimp only at hSw); go_simp; first | done | with_reducible rfl)
                    try simp only [Act.put, List.setIfInBounds_toArray, List.set_cons_zero, List.set_cons_succ]
                    refine took 11 (v := ?_) rfl (by kernel_rfl) (by kernel_rfl) (by kernel_rfl) (by kernel_rfl) (fun _ _ _ h => h) (by rfl) (by assumption) ?_ ?_
                    rotate_left
                    · (intro W hSw; (try dsimp only at hSw); go_simp; first | done | with_reducible rfl)
                    try simp only [Act.put, List.setIfInBounds_toArray, List.set_cons_zero, List.set_cons_succ]
                    refine took 12 (v := ?_) rfl (by kernel_rfl) (by kernel_rfl) (by kernel_rfl) (by kernel_rfl) (fun _ _ _ h => h) (by rfl) (by assumption) ?_ ?_
                    rotate_left
                    · (intro W hSw; (try dsimp only at hSw); go_simp; first | done | with_reducible rfl)
                    try simp only [Act.put, List.setIfInBounds_toArray, List.set_cons_zero, List.set_cons_succ]
                    refine took 13 (v := ?_) rfl (by kernel_rfl) (by kernel_rfl) (by kernel_rfl) (by kernel_rfl) (fun _ _ _ h => h) (by rfl) (by assumption) ?_ ?_
                    rotate_left
                    · (intro W hSw; (try dsimp only at hSw); go_simp; first | done | with_reducible rfl)
                    try simp only [Act.put, List.setIfInBounds_toArray, List.set_cons_zero, List.set_cons_succ]
                    refine took 14 (v := ?_) rfl (by kernel_rfl) (by kernel_rfl) (by kernel_rfl) (by kernel_rfl) (fun _ _ _ h => h) (by rfl) (by assumption) ?_ ?_
                    rotate_left
                    · (intro W hSw; (try dsimp only at hSw); go_simp; first | done | with_reducible rfl)
                    try simp only [Act.put, List.setIfInBounds_toArray, List.set_cons_zero, List.set_cons_succ]
                    refine took 15 (v := ?_) rfl (by kernel_rfl) (by kernel_rfl) (by kernel_rfl) (by kernel_rfl) (fun _ _ _ h => h) (by rfl) (by assumption) ?_ ?_
                    rotate_left
                    · (intro W hSw; (try dsimp only at hSw); go_simp; first | done | with_reducible rfl)
                    try simp only [Act.put, List.setIfInBounds_toArray, List.set_cons_zero, List.set_cons_succ]
                    refine took 16 (v := ?_) rfl (by kernel_rfl) (by kernel_rfl) (by kernel_rfl) (by kernel_rfl) (fun _ _ _ h => h) (by rfl) (by assumption) ?_ ?_
                    rotate_left
                    · (intro W hSw; (try dsimp only at hSw); go_simp; first | done | with_reducible rfl)
                    try simp only [Act.put, List.setIfInBounds_toArray, List.set_cons_zero, List.set_cons_succ]
                    refine allDone (by kernel_rfl) ?_ _
                    clear hHeld hS0 SD
                    go_wp2_with fail
                    go_roundw
                    case rel =>
                      refine ⟨x + 1, by go_num, by omega, fun y hy hg => ?_, hDr1⟩
                      by_cases h : y < x
                      · exact HX.out y h hg
                      · have : y = x := by omega
                        subst this
                        rw [hV1, hP1]; exact hyz.out
                    case measure => simp [intOf]; omega
                  · have hab : ¬ sa = sb := fun h => hyz (by rw [← hsa, ← hsb] at h; injection h with h; simpa using congrArg Array.toList h)
                    have heq : (sa == sb) = false := by rw [← hsa, ← hsb, bytes_beq]; exact decide_eq_false hyz
                    have heL : (sa.toList == sb.toList) = false := by rw [bytes_beqL hsa hsb]; exact decide_eq_false hyz
                    have hne : (sa != sb) = true := by unfold bne; rw [heq]; rfl
                    have h2 := M2.out
                    rw [if_pos (Stp.clash_yes hlt3 hGx (by rw [hV1, hP1]; exact hyz))] at h2
                    have hF := hFIRST.out (by rw [h2]; decide)
                    rw [h2] at hF
                    replace hF := Lib.hid hF
                    have HBx := Lib.hid (below_then HBe.out (hDr1.out.below _))
                    replace hsa := Lib.hid hsa; replace hsb := Lib.hid hsb
                    clear hyz hab h2
                    go_wp2_with fail
                    refine region_E 17 (fun W => W.cell? (ad3.add x) = some (.bool true) ∧ W.cell? (ad1.add x) = some (.slice A1 n1 c1) ∧ W.cell? (ad2.add x) = some (.slice A2 n2 c2) ∧ (convert 27 9 (.slice A1 n1 c1)).run Tryd.prog W = .ok (.string sa) W ∧ (convert 27 9 (.slice A2 n2 c2)).run Tryd.prog W = .ok (.string sb) W) (by kernel_rfl) hS0 (fun hHeld => ?_)
                    refine took 0 (v := ?_) rfl (by kernel_rfl) (by kernel_rfl) (by kernel_rfl) (by kernel_rfl) (fun _ _ _ h => h) (by rfl) (by assumption) ?_ ?_
                    rotate_left
                    · (intro W hSw; (try dsimp only at hSw); go_simp; first | done | with_reducible rfl)
                    try simp only [Act.put, List.setIfInBounds_toArray, List.set_cons_zero, List.set_cons_succ]
                    refine took 1 (v := ?_) rfl (by kernel_rfl) (by kernel_rfl) (by kernel_rfl) (by kernel_rfl) (fun _ _ _ h => h) (by rfl) (by assumption) ?_ ?_
                    rotate_left
                    · (intro W hSw; (try dsimp only at hSw); go_simp; first | done | with_reducible rfl)
                    try simp only [Act.put, List.setIfInBounds_toArray, List.set_cons_zero, List.set_cons_succ]
                    refine took 2 (v := ?_) rfl (by kernel_rfl) (by kernel_rfl) (by kernel_rfl) (by kernel_rfl) (fun _ _ _ h => h) (by rfl) (by assumption) ?_ ?_
                    rotate_left
                    · (intro W hSw; (try dsimp only at hSw); go_simp; first | done | with_reducible rfl)
                    try simp only [Act.put, List.setIfInBounds_toArray, List.set_cons_zero, List.set_cons_succ]
                    refine took 3 (v := ?_) rfl (by kernel_rfl) (by kernel_rfl) (by kernel_rfl) (by kernel_rfl) (fun _ _ _ h => h) (by rfl) (by assumption) ?_ ?_
                    rotate_left
                    · (intro W hSw; (try dsimp only at hSw); go_simp; first | done | with_reducible rfl)
                    try simp only [Act.put, List.setIfInBounds_toArray, List.set_cons_zero, List.set_cons_succ]
                    refine took 4 (v := ?_) rfl (by kernel_rfl) (by kernel_rfl) (by kernel_rfl) (by kernel_rfl) (fun _ _ _ h => h) (by rfl) (by assumption) ?_ ?_
                    rotate_left
                    · (intro W hSw; (try dsimp only at hSw); go_simp; first | done | with_reducible rfl)
                    try simp only [Act.put, List.setIfInBounds_toArray, List.set_cons_zero, List.set_cons_succ]
                    refine took 5 (v := ?_) rfl (by kernel_rfl) (by kernel_rfl) (by kernel_rfl) (by kernel_rfl) (fun _ _ _ h => h) (by rfl) (by assumption) ?_ ?_
                    rotate_left
                    · (intro W hSw; (try dsimp only at hSw); go_simp; first | done | with_reducible rfl)
                    try simp only [Act.put, List.setIfInBounds_toArray, List.set_cons_zero, List.set_cons_succ]
                    refine took 6 (v := ?_) rfl (by kernel_rfl) (by kernel_rfl) (by kernel_rfl) (by kernel_rfl) (fun _ _ _ h => h) (by rfl) (by assumption) ?_ ?_
                    rotate_left
                    · (intro W hSw; (try dsimp only at hSw); go_simp; first | done | with_reducible rfl)
                    try simp only [Act.put, List.setIfInBounds_toArray, List.set_cons_zero, List.set_cons_succ]
                    refine took 7 (v := ?_) rfl (by kernel_rfl) (by kernel_rfl) (by kernel_rfl) (by kernel_rfl) (fun _ _ _ h => h) (by rfl) (by assumption) ?_ ?_
                    rotate_left
                    · (intro W hSw; (try dsimp only at hSw); go_simp; first | done | with_reducible rfl)
                    try simp only [Act.put, List.setIfInBounds_toArray, List.set_cons_zero, List.set_cons_succ]
                    refine took 8 (v := ?_) rfl (by kernel_rfl) (by kernel_rfl) (by kernel_rfl) (by kernel_rfl) (fun _ _ _ h => h) (by rfl) (by assumption) ?_ ?_
                    rotate_left
                    · (intro W hSw; (try dsimp only at hSw); go_simp; first | done | with_reducible rfl)
                    try simp only [Act.put, List.setIfInBounds_toArray, List.set_cons_zero, List.set_cons_succ]
                    refine took 9 (v := ?_) rfl (by kernel_rfl) (by kernel_rfl) (by kernel_rfl) (by kernel_rfl) (fun _ _ _ h => h) (by rfl) (by assumption) ?_ ?_
                    rotate_left
                    · (intro W hSw; (try dsimp only at hSw); go_simp; first | done | with_reducible rfl)
                    try simp only [Act.put, List.setIfInBounds_toArray, List.set_cons_zero, List.set_cons_succ]
                    refine took 10 (v := ?_) rfl (by kernel_rfl) (by kernel_rfl) (by kernel_rfl) (by kernel_rfl) (fun _ _ _ h => h) (by rfl) (by assumption) ?_ ?_
                    rotate_left
                    · (intro W hSw; (try dsimp only at hSw); go_simp; first | done | with_reducible rfl)
                    try simp only [Act.put, List.setIfInBounds_toArray, List.set_cons_zero, List.set_cons_succ]
                    refine took 11 (v := ?_) rfl (by kernel_rfl) (by kernel_rfl) (by kernel_rfl) (by kernel_rfl) (fun _ _ _ h => h) (by rfl) (by assumption) ?_ ?_
                    rotate_left
                    · (intro W hSw; (try dsimp only at hSw); go_simp; first | done | with_reducible rfl)
                    try simp only [Act.put, List.setIfInBounds_toArray, List.set_cons_zero, List.set_cons_succ]
                    refine took 12 (v := ?_) rfl (by kernel_rfl) (by kernel_rfl) (by kernel_rfl) (by kernel_rfl) (fun _ _ _ h => h) (by rfl) (by assumption) ?_ ?_
                    rotate_left
                    · (intro W hSw; (try dsimp only at hSw); go_simp; first | done | with_reducible rfl)
                    try simp only [Act.put, List.setIfInBounds_toArray, List.set_cons_zero, List.set_cons_succ]
                    refine took 13 (v := ?_) rfl (by kernel_rfl) (by kernel_rfl) (by kernel_rfl) (by kernel_rfl) (fun _ _ _ h => h) (by rfl) (by assumption) ?_ ?_
                    rotate_left
                    · (intro W hSw; (try dsimp only at hSw); go_simp; first | done | with_reducible rfl)
                    try simp only [Act.put, List.setIfInBounds_toArray, List.set_cons_zero, List.set_cons_succ]
                    refine took 14 (v := ?_) rfl (by kernel_rfl) (by kernel_rfl) (by kernel_rfl) (by kernel_rfl) (fun _ _ _ h => h) (by rfl) (by assumption) ?_ ?_
                    rotate_left
                    · (intro W hSw; (try dsimp only at hSw); go_simp; first | done | with_reducible rfl)
                    try simp only [Act.put, List.setIfInBounds_toArray, List.set_cons_zero, List.set_cons_succ]
                    refine took 15 (v := ?_) rfl (by kernel_rfl) (by kernel_rfl) (by kernel_rfl) (by kernel_rfl) (fun _ _ _ h => h) (by rfl) (by assumption) ?_ ?_
                    rotate_left
                    · (intro W hSw; (try dsimp only at hSw); go_simp; first | done | with_reducible rfl)
                    try simp only [Act.put, List.setIfInBounds_toArray, List.set_cons_zero, List.set_cons_succ]
                    refine took 16 (v := ?_) rfl (by kernel_rfl) (by kernel_rfl) (by kernel_rfl) (by kernel_rfl) (fun _ _ _ h => h) (by rfl) (by assumption) ?_ ?_
                    rotate_left
                    · (intro W hSw; (try dsimp only at hSw); go_simp; first | done | with_reducible rfl)
                    try simp only [Act.put, List.setIfInBounds_toArray, List.set_cons_zero, List.set_cons_succ]
                    refine allDone (by kernel_rfl) ?_ _
                    clear hHeld hS0 SD
                    go_wp2_with fail
                    go_ret3
                    rw [hF.out.1, hF.out.2.1, hF.out.2.2]
                    exact RdRet.nil HBx.out
              · have hge4 : ¬ (x : Int) < (k : Int) + (m : Int) := by omega
                have hge5 : ¬ (x : Int) < (j : Int) := by omega
                obtain rfl : x = j := by omega
                have hE0 : Hid (Stp.csE k m cs = 0) := by
                  have h2 := M2.out
                  rw [Stp.clash_no (fun y hy hg => HX.out y hy hg)] at h2
                  exact h2
                replace HQ2 := Lib.hid HQ2.out
                have HBl := Lib.hid (below_then HBe.out (HDr.out.below _))
                have HOl := Lib.hid (HDr.out.own HOe.out)
                have HDl := Lib.hid (HDr.out.own HDe.out)
                have HYl := Lib.hid (HDr.out.lists HYe.out)
                have hwr' : Hid (Wb.heap.size ≤ wr.heap.size) := by rw [Hid, HDr.out.size]; exact hwe.out
                obtain ⟨W2, hW2⟩ : ∃ W2, W2 = wr := ⟨_, rfl⟩
                subst hW2
                obtain ⟨gq, hgq⟩ : ∃ gq, blkOf A15 0 = gq := ⟨_, rfl⟩
                have hgq2 : Hid (gq < Wb.heap.size) := by
                  have h0 : 0 < Wb.heap.size := by have := hbw.out; omega
                  rcases blkOf_or A15 0 with e | e
                  · rw [Hid, ← hgq, e]; exact h0
                  · rw [hgq] at e
                    exact hOlt.out gq e
                have HAx : Hid (Aside W2 W2 gq A15) := Aside.here fun q hq => .inl (hgq ▸ blkOf_spec hq)
                have hAD : Hid (∀ g, A16.map (·.block) = some g → g ≠ gq) := fun g hg e => by
                  obtain ⟨cs', fr, hc⟩ := own_row HDl.out g hg
                  rcases blkOf_or A15 0 with e' | e'
                  · have := hDlt.out g hg
                    rw [hgq] at e'
                    rw [e, e'] at hg
                    have hb0 := (HDl.out.lt 0 (by rw [ownBlock_slice]; exact hg)).1
                    omega
                  · rw [hgq] at e'
                    obtain ⟨cs2, fr2, hc2⟩ := own_row HOl.out gq e'
                    rw [e, hc2] at hc
                    injection hc with hc
                    injection hc with _ hc
                    exact absurd hc (by decide)
                have ROW := Lib.hid (fun (W : World) (Aq : Option Addr) (hW : Aside W2 W gq Aq) (y : Nat) (hy : y < x) => (HYl.out.aside (Nat.zero_le _) hgq2.out hW).rows8.row hy)
                have hkj : k ≤ x := by have := HQ2.out; omega
                have hMk : M + k * ch ≤ 16777216 := by
                  have h2 := SH.out.hd
                  rw [← h2]; omega
                have hDl0 := Lib.hid (fun g (hg : A16.map (·.block) = some g) => lt_of_heap (own_row HDl.out g hg).choose_spec.choose_spec)
                clear HX HDr HBe HOe HDe HLe HFe HYe HYl M2 hFIRST hDlt hOlt
                go_wp2_with fail
                go_loopw [15, 28] (fun v15 v28 wr => ∃ (y Mq cq : Nat) (Aq : Option Addr), v15 = .slice Aq Mq cq ∧ v28 = .int .i64 (y : Nat) ∧ y ≤ k ∧ Mq ≤ 16777216 ∧ Hid (Mq = M + y * ch) ∧ Hid (Aside W2 wr gq Aq) ∧ Hid (Below w.heap.size w wr) ∧ Hid (wr.ownsRow w.heap.size 5 1 (.slice Aq Mq cq) Mq ((Stp.outTo k m ch s t ++ (V.take y).flatten).map B8))) (fun _ v28 _ => k - (intOf v28).toNat)
                case atStart => exact ⟨0, M, c15, A15, rfl, rfl, Nat.zero_le _, hM, by show M = M + 0 * ch; rw [Nat.zero_mul]; rfl, HAx, HBl, by simpa [Hid] using HOl.out⟩
                case round =>
                  clear HBl HOl HAx
                  obtain ⟨y, Mq, cq, Aq, rfl, rfl, hyk, hMq, HMq, HAq, HBq, HOq⟩ := hrel
                  by_cases hlt4 : y < k
                  · have hlt4' : (y : Int) < (k : Int) := by omega
                    have hlt4j : (y : Int) < (x : Int) := by omega
                    obtain ⟨ad, ys, Ai, ni, ci, hAd, -, hx, hcell, hnic, hcim, hrow⟩ := ROW.out wr Aq HAq.out y (by omega)
                    subst hAd
                    have TK : Hid ((V.take (y + 1)).flatten = (V.take y).flatten ++ ys) := by rw [Hid, take_snoc hx, List.flatten_append]; simp
                    have hxl := VL.out ys (List.mem_of_getElem? hx)
                    have hni : ni = ch := by have := hrow.len; omega
                    rw [hni] at hcell hnic hrow
                    have hMn : Mq + ch ≤ 16777216 := by
                      have := HMq.out
                      have h2 : (y + 1) * ch ≤ k * ch := Nat.mul_le_mul_right _ hlt4
                      rw [Nat.succ_mul] at h2; omega
                    have ONE : Hid (∀ u ∈ ys.map B8, u.oneCell' = true) := row_one hrow
                    have hMx : Mq + ch ≤ maxLen := by unfold maxLen; omega
                    have hMy : (Mq + ch) * 1 ≤ 140737488355328 := by omega
                    have hszp : w.heap.size ≤ wr.heap.size := HBq.out.size
                    replace hrow := Lib.hid hrow
                    clear hx
                    go_wp2_with (at_builtin; refine wpList_append_any _ rfl (.tmp 145) (.tmp 149) 27 rfl w.heap.size 5 i0 (.int .u8 0) 1 1 Tryd.underlying27 hi.out hz0.out hz1.out hz2.out rfl (by omega) Aq Mq cq _ rfl HOq.out wr.heap.size Ai ch ci _ rfl hrow.out ONE.out hMx hMy hszp ?_; intro A5 c5 w4 ho5 hg5 hs5; have HA5 := Lib.hid (HAq.out.grow hg5 hs5); have HB5 : Below w.heap.size w w4 := below_app HBq.out hg5 HOq.out hszp; replace HB5 := Lib.hid HB5; replace ho5 := Lib.hid ho5; clear hg5 hs5)
                    go_roundw
                    case rel =>
                      refine ⟨y + 1, Mq + ch, c5, A5, rfl, by go_num, by omega, hMn, ?_, HA5, HB5, ?_⟩
                      · show Mq + ch = M + (y + 1) * ch
                        rw [HMq.out, Nat.succ_mul, Nat.add_assoc]
                      · have h5 := ho5.out
                        rw [TK.out]
                        simpa [Hid, List.append_assoc] using h5
                    case measure => simp [intOf]; omega
                  · have hge6 : ¬ (y : Int) < (k : Int) := by omega
                    obtain rfl : y = k := by omega
                    have HOz : Hid (wr.ownsRow w.heap.size 5 1 (.slice Aq Mq cq) Mq ((Stp.outTo y m ch s (t + 1)).map B8)) := by rw [hOUT.out]; exact HOq.out
                    have HDz : Hid (wr.ownsRow w.heap.size 3 1 (.slice A16 nbj c16) nbj ((Stp.badTo ce s ((t + 1) * x)).map NV)) := by
                      rw [Nat.succ_mul]
                      exact ownsRow_block HDl.out fun a ha => HAq.out.heap _ (hDl0.out a.block (by rw [ha]; rfl)) (hAD.out a.block (by rw [ha]; rfl))
                    clear HOq HDl HAq ROW
                    go_wp2_with fail
                    go_roundw
                    case rel =>
                      refine ⟨t + 1, i + L, Mq, nbj, cq, c16, Aq, A16, rfl, rfl, by go_num, by omega, by omega, hMq, by omega, ?_, ?_, ?_, ?_, HBq, HOz, HDz⟩
                      · show i + L = (t + 1) * L
                        rw [HI.out, Nat.succ_mul]
                      · show Mq = (t + 1) * d
                        rw [HMq.out, HM.out, Nat.succ_mul, SH.out.hd]
                      · show nbj ≤ (t + 1) * x
                        rw [Nat.succ_mul]; exact HNJ.out
                      · intro z hz
                        by_cases h : z < t
                        · exact HE.out z h
                        · obtain rfl : z = t := by omega
                          rw [hcs.out]; exact hE0.out
                    case measure => simp [intOf]; omega
    · obtain rfl : t = S := by omega
      have hiT2 : i = T := by rw [HI.out, SH.out.hT]
      have hMN : M = N := by rw [HM.out, SH.out.hN]
      subst hMN
      have hge : ¬ (i : Int) < (T : Int) := by omega
      have hGOOD := Lib.hid (fun h => Stp.rdE_good (n := n) HE.out h)
      have hBEH := Lib.hid (fun h => Stp.rdE_behind (n := n) HE.out h)
      have hce2 := hce
      rw [hq.out, hce.out] at hGOOD
      obtain ⟨W2, hW2⟩ : ∃ W2, W2 = wr := ⟨_, rfl⟩
      subst hW2
      obtain ⟨O, hO⟩ : ∃ O, Stp.outTo k m ch s t = O := ⟨_, rfl⟩
      rw [hO] at HO hGOOD hBEH
      obtain ⟨BD, hBD⟩ : ∃ BD, Stp.badTo ce s (t * q) = BD := ⟨_, rfl⟩
      rw [hBD] at HD hGOOD
      have OL : Hid (O.length = M) := by have := HO.out.1; rw [Hid]; simpa using this
      have DL : Hid (BD.length = nb) := by have := HD.out.1; rw [Hid]; simpa using this
      have RO := Lib.hid (Reads.of_own HO.out)
      have RDD := Lib.hid (Reads.of_own HD.out)
      have hcap := (own_cap HO.out).1
      replace hO := Lib.hid hO; replace hBD := Lib.hid hBD
      clear HE HO HD CS CG
      go_wp2_with fail
      go_loopw [29] (fun v29 wr => ∃ (x : Nat), v29 = .int .i64 (x : Nat) ∧ n ≤ x ∧ x ≤ M ∧ Hid (∀ y, n ≤ y → y < x → O[y]? = some 0) ∧ W2 = wr) (fun v29 _ => M - (intOf v29).toNat)
      case atStart => exact ⟨n, rfl, Nat.le_refl _, nN, fun y h1 h2 => by omega, rfl⟩
      case round =>
        obtain ⟨x, rfl, hnx, hxM, HX, rfl⟩ := hrel
        by_cases hlt3 : x < M
        · have hlt3' : (x : Int) < (M : Int) := by omega
          have hx0 : (0 : Int) ≤ (x : Int) := by omega
          obtain ⟨ad, z, hAd, -, hz, hcell⟩ := RO.out.byte hlt3
          subst hAd
          by_cases hzz : z = 0
          · have hz8 : ((z.toNat : Int) == 0) = true := by rw [hzz]; rfl
            have hz9 : ((z.toNat : Int) != 0) = false := by rw [hzz]; rfl
            replace hzz := Lib.hid hzz
            replace hz := Lib.hid hz
            have hz10 : (z.toNat : Int) = 0 := by rw [hzz.out]; rfl
            have hz11 : z.toNat = 0 := by rw [hzz.out]; rfl
            go_wp2_with fail
            go_roundw
            case rel =>
              refine ⟨x + 1, by go_num, by omega, by omega, fun y h1 h2 => ?_, trivial⟩
              by_cases h : y < x
              · exact HX.out y h1 h
              · obtain rfl : y = x := by omega
                rw [hz.out, hzz.out]
            case measure => simp [intOf]; omega
          · have hz10 : ¬ (z.toNat : Int) = 0 := fun h => hzz (UInt8.toNat_inj.1 (by have h0 : (0 : UInt8).toNat = 0 := rfl; omega))
            have hz11 : ¬ z.toNat = 0 := by omega
            have hz8 : ((z.toNat : Int) == 0) = false := by simp [hz11]
            have hz9 : ((z.toNat : Int) != 0) = true := by simp [hz11]
            have hF := Lib.hid (hBEH.out (Stp.behind_yes hz hnx hzz))
            clear hz hzz
            go_wp2_with fail
            go_ret3
            rw [hF.out.1, hF.out.2.1, hF.out.2.2]
            exact RdRet.nil HB.out
        · have hge3 : ¬ (x : Int) < (M : Int) := by omega
          have hF := hGOOD.out (Stp.behind_no fun y h1 h2 => HX.out y h1 (by have := OL.out; omega))
          replace hF := Lib.hid hF
          have hn0 : (0 : Int) ≤ (n : Int) := by omega
          have hnc5 : (n : Int) ≤ (c15 : Int) := by omega
          go_wp2_with fail
          go_ret3
          rw [hF.out.1, hF.out.2.1, hF.out.2.2]
          have hl1 : (O.take n).length = n := by rw [List.length_take, OL.out]; omega
          refine ⟨A15, c15, A16, c16, by rw [hl1, DL.out]; rfl, ?_, ?_, HB.out⟩
          · rw [hl1]; exact RO.out.takeN nN
          · rw [DL.out]; exact RDD.out
end Go.Proofs.YtjbedcgacnnanaaDoor

namespace Go.Proofs.YtjbedcgacnnanaaDoor
set_option linter.unusedSimpArgs false
set_option linter.unusedVariables false
open Go.RowKit Go.Shelf
attribute [local go_sem] Oper.semAt_some

namespace Stp
/-- of flags, the places that aren't good, counted from a -/
def badL (a : Nat) (l : List Bool) : List Nat := ((List.range l.length).filter fun i => !(l.getD i false)).map (a + ·)
theorem badL_snoc (a : Nat) (l : List Bool) (g : Bool) : badL a (l ++ [g]) = badL a l ++ (if g = true then [] else [a + l.length]) := by
  unfold badL
  rw [List.length_append, List.length_singleton, List.range_succ, List.filter_append, List.map_append]
  congr 1
  · congr 1
    apply List.filter_congr
    intro i hi
    have hi := List.mem_range.1 hi
    rw [List.getD_eq_getElem?_getD, List.getElem?_append_left hi, ← List.getD_eq_getElem?_getD]
  · have h : (l ++ [g]).getD l.length false = g := by rw [List.getD_eq_getElem?_getD, List.getElem?_append_right (Nat.le_refl _), Nat.sub_self]; rfl
    cases g with
    | false => rw [List.filter_cons_of_pos (by rw [h]; rfl)]; rfl
    | true => rw [List.filter_cons_of_neg (by rw [h]; decide)]; rfl
theorem badTo_add (ce : Nat) (s : List UInt8) (a : Nat) : ∀ j, badTo ce s (a + j) = badTo ce s a ++ badL a ((List.range j).map fun i => goodB (chunkB s ce (a + i)))
  | 0 => by simp [badL]
  | j + 1 => by
    rw [← Nat.add_assoc, badTo_step, badTo_add ce s a j, List.range_succ, List.map_append, List.append_assoc]
    congr 1
    rw [List.map_cons, List.map_nil, badL_snoc, List.length_map, List.length_range]
theorem fin_map {α : Type} (q : Nat) (f : Nat → α) : ((List.finRange q).map fun x => f x.val) = (List.range q).map f := by
  apply List.ext_getElem?
  intro i
  by_cases h : i < q
  · rw [List.getElem?_map, List.getElem?_map, List.getElem?_range h, List.getElem?_eq_getElem (by simpa using h)]
    simp
  · rw [List.getElem?_eq_none (by simp; omega), List.getElem?_eq_none (by simp; omega)]
end Stp
/-- blocks of cells stand -/
def KeepAll (w w' : World) : Prop := ∀ (k : Nat) (t : TypeId) (cs : Array Value) (fr : Nat × Nat), w.heap[k]? = some (.cells cs t fr) → w'.heap[k]? = some (.cells cs t fr)
theorem KeepAll.of_grown {w w' : World} {row : Option Nat} (hg : w.grownBy w' row) (hr : ∀ r, row = some r → ∃ o : Obj, w.heap[r]? = some o ∧ o.isCells = false) : KeepAll w w' := fun k t cs fr hk => by
  refine (hg.block k (lt_of_heap hk) fun e => ?_).trans hk
  obtain ⟨o, ho, hc⟩ := hr k e.symm
  rw [hk] at ho
  injection ho with ho
  rw [← ho] at hc
  exact absurd hc (by simp [Obj.isCells])
theorem KeepAll.own {w w' : World} {base size n c : Nat} {A : Option Addr} {E : TypeId} {xs : List Value} (hk : KeepAll w w') (h : w.ownsRow base E size (.slice A n c) n xs) : w'.ownsRow base E size (.slice A n c) n xs :=
  ownsRow_block h fun a ha => by
    obtain ⟨cs, fr, hc⟩ := own_row h a.block (by rw [ha]; rfl)
    rw [hc]
    exact hk _ _ _ _ hc
theorem KeepAll.blk {w w' : World} {g : Nat} {t : TypeId} {cs : Array Value} (hk : KeepAll w w') (h : Blk w g t cs) : Blk w' g t cs := hk _ _ _ _ h
/-- lists with all rows of the call's own, kept as their parts are -/
theorem Lists.kept {W W' : World} {base n c : Nat} {A : Option Addr} {xss : List (List UInt8)} (h : Lists W 0 base A n c xss) (hs : W.heap.size ≤ W'.heap.size)
    (hk : ∀ (E : TypeId) (size n' c' : Nat) (A' : Option Addr) (ys : List Value), (E = 27 ∨ E = 5) → W.ownsRow base E size (.slice A' n' c') n' ys → W'.ownsRow base E size (.slice A' n' c') n' ys) : Lists W' 0 base A n c xss := by
  obtain ⟨⟨vs, h1, h2, h3⟩, hb, h0⟩ := h
  refine ⟨⟨vs, hk _ _ _ _ _ _ (.inl rfl) h1, h2, fun i xs hi => ?_⟩, Nat.le_trans hb hs, h0⟩
  obtain ⟨Ai, ci, a1, a2, a3, a4⟩ := h3 i xs hi
  refine ⟨Ai, ci, a1, a2, a3, ?_⟩
  rcases a4 with a4 | a4
  · exact .inl (a4.keep fun p hp => absurd hp (Nat.not_lt_zero _))
  · exact .inr (hk _ _ _ _ _ _ (.inr rfl) a4)
section
variable {W W' : World} {g : Nat} {t E : TypeId} {cs : Array Value} {base size n c : Nat} {A : Option Addr} {xs : List Value}
/-- a cell of a block of another type turned: the rows stand -/
theorem own_setT (h : W.ownsRow base E size (.slice A n c) n xs) (hb : Blk W g t cs) (hE : E ≠ t) (j : Nat) (u : Value) : (W.setCell ⟨g, j, none⟩ u).ownsRow base E size (.slice A n c) n xs :=
  ownsRow_block h fun a ha => by
    refine Below.heap_setCell W ⟨g, j, none⟩ u a.block (fun e => ?_)
    obtain ⟨cs', fr, hc⟩ := own_row h g (by rw [ha]; exact congrArg some e)
    have hb' : W.heap[g]? = some (.cells cs t) := hb
    rw [hb'] at hc
    injection hc with hc
    injection hc with _ hc
    exact hE hc.symm
theorem blk_grownE (hb : Blk W g t cs) (h : W.ownsRow base E size (.slice A n c) n xs) (hE : E ≠ t) (hg : W.grownBy W' (A.map (·.block))) : Blk W' g t cs :=
  hb.grown hg fun e => by
    obtain ⟨cs', fr, hc⟩ := own_row h g e.symm
    have hb' : W.heap[g]? = some (.cells cs t) := hb
    rw [hb'] at hc
    injection hc with hc
    injection hc with _ hc
    exact hE hc.symm
theorem blk_setT {g' : Nat} {t' : TypeId} {cs' : Array Value} (h : Blk W g' t' cs') (hb : Blk W g t cs) (hE : t' ≠ t) (j : Nat) (u : Value) : Blk (W.setCell ⟨g, j, none⟩ u) g' t' cs' := h.far (p := ⟨g, j, none⟩) (h.ne_ hb hE) u
end
/-- what stands while a stripe is read: the boxes of the reader's address, the parts and the flags; the iterator's boxes; the reader -/
structure StJ (w0 : World) (base b0 g b2 b5 b6 bS bN k m ch no co : Nat) (Ao : Option Addr) (out : List UInt8) (vS vN : Value) (W : World) (n5 n6 : Nat) (L5 : List (List UInt8)) (L6 : List Bool) (at_ : Nat) (bd : List Nat) : Prop where
  r2 : Blk W b2 63 #[.pointer (some ⟨g, 0, none⟩)]
  r5 : ∃ A5 c5, Blk W b5 55 #[.slice A5 n5 c5] ∧ Lists W 0 b0 A5 n5 c5 L5
  r6 : ∃ A6 c6, Blk W b6 67 #[.slice A6 n6 c6] ∧ W.ownsRow b0 4 1 (.slice A6 n6 c6) n6 (L6.map Value.bool)
  rd : ∃ Ab nb cb, nb ≤ at_ ∧ Ab.map (·.block) ≠ some bN ∧ Rdr W base g k m ch Ao no co Ab nb cb at_ out bd
  below : Below base w0 W
  g5 : base ≤ b5
  g6 : base ≤ b6
  rS : Blk W bS 27 #[vS]
  rN : Blk W bN 3 #[vN]
  gS : bS < b0
  gN : bN < b0
  b00 : base ≤ b0
section
variable {w0 W W' : World} {base b0 g b2 b5 b6 bS bN k m ch no co at_ n5 n6 : Nat} {Ao : Option Addr} {out : List UInt8} {vS vN : Value} {bd : List Nat} {L5 : List (List UInt8)} {L6 : List Bool}
theorem StJ.keepAll {B : Nat} {row : Option Nat} (h : StJ w0 base b0 g b2 b5 b6 bS bN k m ch no co Ao out vS vN W n5 n6 L5 L6 at_ bd) (hB : base ≤ B) (hg : W.grownBy W' row) (hr : ∀ r, row = some r → B ≤ r ∧ ∃ o : Obj, W.heap[r]? = some o ∧ o.isCells = false) : StJ w0 base b0 g b2 b5 b6 bS bN k m ch no co Ao out vS vN W' n5 n6 L5 L6 at_ bd := by
  have hk : KeepAll W W' := KeepAll.of_grown hg fun r e => (hr r e).2
  obtain ⟨h2, ⟨A5, c5, h5, h5'⟩, ⟨A6, c6, h6, h6'⟩, ⟨Ab, nb, cb, hn, hne, hd⟩, hb, q5, q6, rS, rN, gS, gN, b00⟩ := h
  exact ⟨hk.blk h2, ⟨A5, c5, hk.blk h5, h5'.kept hg.size fun _ _ _ _ _ _ _ ho => hk.own ho⟩, ⟨A6, c6, hk.blk h6, hk.own h6'⟩, ⟨Ab, nb, cb, hn, hne, hk.blk hd.blk, hd.ge, hk.own hd.oo, hk.own hd.ob⟩, hb.grown hg (Nat.le_trans hd.ge (Nat.le_of_lt hd.blk.lt)) (fun r e => by have := (hr r e).1; omega), q5, q6, hk.blk rS, hk.blk rN, gS, gN, b00⟩
theorem StJ.size (h : StJ w0 base b0 g b2 b5 b6 bS bN k m ch no co Ao out vS vN W n5 n6 L5 L6 at_ bd) : base ≤ W.heap.size := by
  obtain ⟨Ab, nb, cb, hn, _, hd⟩ := h.rd
  exact Nat.le_trans hd.ge (Nat.le_of_lt hd.blk.lt)
theorem StJ.size0 (h : StJ w0 base b0 g b2 b5 b6 bS bN k m ch no co Ao out vS vN W n5 n6 L5 L6 at_ bd) : b0 ≤ W.heap.size := by
  obtain ⟨A5, c5, hd, hl⟩ := h.r5
  exact hl.bs
/-- what is not the reader's nor a row of ints stands behind part -/
theorem Part2.keep {Ab Ab' : Option Addr} {nb cb b : Nat} {cs : Array Value} {vs : List Value} (h : Part2 W W' g Ab Ab') (hb : Blk W g 65 cs) (ho : W.ownsRow b 3 1 (.slice Ab nb cb) nb vs) {t : TypeId} {cs' : Array Value} {fr : Nat × Nat} {k : Nat} (hk : W.heap[k]? = some (.cells cs' t fr)) (h1 : t ≠ 65) (h2 : t ≠ 3 ∨ Ab.map (·.block) ≠ some k) : W'.heap[k]? = some (.cells cs' t fr) := by
  refine (h.heap k (lt_of_heap hk) ?_ ?_).trans hk
  · rintro rfl
    have hb' : W.heap[k]? = some (.cells cs 65) := hb
    rw [hb'] at hk
    injection hk with hk
    injection hk with _ hk
    exact h1 hk.symm
  · rcases h2 with h2 | h2
    · intro e
      obtain ⟨cs2, fr2, hc⟩ := own_row ho k e
      rw [hk] at hc
      injection hc with hc
      injection hc with _ hc
      exact h2 hc
    · exact h2
/-- behind part -/
theorem StJ.part {at' nb cb : Nat} {bd' : List Nat} {Ab Ab' : Option Addr} {nb' cb' : Nat} (h : StJ w0 base b0 g b2 b5 b6 bS bN k m ch no co Ao out vS vN W n5 n6 L5 L6 at_ bd) (hd : Rdr W base g k m ch Ao no co Ab nb cb at_ out bd) (hne : Ab.map (·.block) ≠ some bN) (hR : Rdr W' base g k m ch Ao no co Ab' nb' cb' at' out bd') (hn : nb' ≤ at') (hB : Below base W W') (hK : Part2 W W' g Ab Ab') : StJ w0 base b0 g b2 b5 b6 bS bN k m ch no co Ao out vS vN W' n5 n6 L5 L6 at' bd' := by
  have hbk := hd.blk
  have hob := hd.ob
  have hs0 := h.size0
  obtain ⟨h2, ⟨A5, c5, h5, h5'⟩, ⟨A6, c6, h6, h6'⟩, -, hb, q5, q6, rS, rN, gS, gN, b00⟩ := h
  have KB : ∀ {b : Nat} {t : TypeId} {cs : Array Value}, Blk W b t cs → t ≠ 65 → t ≠ 3 → Blk W' b t cs := fun hbb e1 e2 => hK.keep hbk hob hbb e1 (.inl e2)
  have KO : ∀ {E : TypeId} {size n' c' : Nat} {A' : Option Addr} {ys : List Value}, E ≠ 65 → E ≠ 3 → W.ownsRow b0 E size (.slice A' n' c') n' ys → W'.ownsRow b0 E size (.slice A' n' c') n' ys := fun e1 e2 ho => ownsRow_block ho fun a ha => by
    obtain ⟨cs', fr, hc⟩ := own_row ho a.block (by rw [ha]; rfl)
    rw [hc]
    exact hK.keep hbk hob hc e1 (.inl e2)
  refine ⟨KB h2 (by decide) (by decide), ⟨A5, c5, KB h5 (by decide) (by decide), h5'.kept hB.size fun E _ _ _ _ _ hE ho => KO (by rcases hE with rfl | rfl <;> decide) (by rcases hE with rfl | rfl <;> decide) ho⟩, ⟨A6, c6, KB h6 (by decide) (by decide), KO (by decide) (by decide) h6'⟩, ⟨Ab', nb', cb', hn, fun e => ?_, hR⟩, hb.trans hB, q5, q6, KB rS (by decide) (by decide), hK.keep hbk hob rN (by decide) (.inr hne), gS, gN, b00⟩
  rcases hK.row _ e with e1 | e1
  · exact hne e1
  · omega
/-- behind the call of something that makes memory alone -/
theorem StJ.fresh (h : StJ w0 base b0 g b2 b5 b6 bS bN k m ch no co Ao out vS vN W n5 n6 L5 L6 at_ bd) (hB : Below W.heap.size W W') : StJ w0 base b0 g b2 b5 b6 bS bN k m ch no co Ao out vS vN W' n5 n6 L5 L6 at_ bd := by
  have hs := h.size
  obtain ⟨h2, ⟨A5, c5, h5, h5'⟩, ⟨A6, c6, h6, h6'⟩, ⟨Ab, nb, cb, hn0, hne, hd⟩, hb, q5, q6, rS, rN, gS, gN, b00⟩ := h
  exact ⟨h2.below hB h2.lt, ⟨A5, c5, h5.below hB h5.lt, h5'.below hB⟩, ⟨A6, c6, h6.below hB h6.lt, own_belowL h6' hB⟩, ⟨Ab, nb, cb, hn0, hne, hd.below hB⟩, hb.trans (hB.mono hs), q5, q6, rS.below hB rS.lt, rN.below hB rN.lt, gS, gN, b00⟩
theorem blk_grownO {b b' n c : Nat} {t E : TypeId} {cs : Array Value} {A : Option Addr} {size : Nat} {xs : List Value} (hb : Blk W b t cs) (h : W.ownsRow b' E size (.slice A n c) n xs) (hlt : b < b') (hg : W.grownBy W' (A.map (·.block))) : Blk W' b t cs :=
  hb.grown hg fun e => by
    have := (h.lt b (by rw [ownBlock_slice]; exact e.symm)).1
    omega
/-- one part more: the box of the parts still holds the old slice -/
theorem StJ.app5 {A5 A3 Ap : Option Addr} {c5 c3 cp lv : Nat} {x : List UInt8} {vs : List Value} {C : Obj} (h : StJ w0 base b0 g b2 b5 b6 bS bN k m ch no co Ao out vS vN W n5 n6 L5 L6 at_ bd) (h5 : Blk W b5 55 #[.slice A5 n5 c5])
    (h1 : W.ownsRow b0 27 1 (.slice A5 n5 c5) n5 vs) (h2 : L5.length = n5) (h3 : ∀ (i : Nat) (xs : List UInt8), L5[i]? = some xs → ∃ (Ai : Option Addr) (ci : Nat), vs[i]? = some (.slice Ai xs.length ci) ∧ RowOK W 0 b0 Ai ci xs)
    (hl : x.length = lv) (hp : W.ownsRow b0 5 1 (.slice Ap lv cp) lv (x.map B8)) (ho : W'.ownsRow b0 27 1 (.slice A3 (n5 + 1) c3) (n5 + 1) (vs ++ [.slice Ap lv cp])) (hg : (W.alloc C).grownBy W' (A5.map (·.block))) :
    Blk W' b5 55 #[.slice A5 n5 c5] ∧ StJ w0 base b0 g b2 b5 b6 bS bN k m ch no co Ao out vS vN (W'.setCell ⟨b5, 0, none⟩ (.slice A3 (n5 + 1) c3)) (n5 + 1) n6 (L5 ++ [x]) L6 at_ bd := by
  have hs := h.size
  have hs0 := h.size0
  obtain ⟨r2, -, ⟨A6, c6, h6, h6'⟩, ⟨Ab, nb, cb, hn0, hne, hd⟩, hb, q5, q6, rS, rN, gS, gN, b00⟩ := h
  have hBa : Below W.heap.size W (W.alloc C) := (Below.refl _ _).alloc (Nat.le_refl _) _
  have h1a := h1.alloc C
  have k5 : Blk W' b5 55 #[.slice A5 n5 c5] := blk_grownE (h5.alloc C) h1a (by decide) hg
  have hL := Lists.pushN hl ((RowOK.own (b0 := 0) hp).2.below (Nat.zero_le _) hs0 hBa) h1a h2 (fun i xs hi => by
    obtain ⟨Ai, ci, a1, a2⟩ := h3 i xs hi
    exact ⟨Ai, ci, a1, a2.below (Nat.zero_le _) hs0 hBa⟩) (Nat.zero_le _) (Nat.le_trans hs0 hBa.size) ho hg
  have hBW : Below base w0 W' := below_app (hb.trans (hBa.mono hs)) hg (own_base h1a b00) (Nat.le_trans hs hBa.size)
  refine ⟨k5, blk_setT (blk_grownE (r2.alloc C) h1a (by decide) hg) k5 (by decide) _ _, ⟨A3, c3, ?_, ?_⟩, ⟨A6, c6, ?_, ?_⟩, ⟨Ab, nb, cb, hn0, hne, ?_, hd.ge, ?_, ?_⟩, hBW.setCell (p := ⟨b5, 0, none⟩) q5 _, q5, q6, ?_, ?_, gS, gN, b00⟩
  · exact k5.set_ 0 _
  · exact hL.kept (by rw [World.size_setCell]; exact Nat.le_refl _) fun E _ _ _ _ _ hE ho => own_setT ho k5 (by rcases hE with rfl | rfl <;> decide) _ _
  · exact blk_setT (blk_grownE (h6.alloc C) h1a (by decide) hg) k5 (by decide) _ _
  · exact own_setT (own_apart (h6'.alloc C) h1a (by decide) hg) k5 (by decide) _ _
  · exact blk_setT (blk_grownE (hd.blk.alloc C) h1a (by decide) hg) k5 (by decide) _ _
  · exact own_setT (own_apart (hd.oo.alloc C) h1a (by decide) hg) k5 (by decide) _ _
  · exact own_setT (own_apart (hd.ob.alloc C) h1a (by decide) hg) k5 (by decide) _ _
  · exact blk_setT (blk_grownO (rS.alloc C) h1a gS hg) k5 (by decide) _ _
  · exact blk_setT (blk_grownO (rN.alloc C) h1a gN hg) k5 (by decide) _ _
/-- one flag more -/
theorem StJ.app6 {A6 A3 : Option Addr} {c6 c3 : Nat} {f : Bool} {C : Obj} (h : StJ w0 base b0 g b2 b5 b6 bS bN k m ch no co Ao out vS vN W n5 n6 L5 L6 at_ bd) (h6 : Blk W b6 67 #[.slice A6 n6 c6])
    (h1 : W.ownsRow b0 4 1 (.slice A6 n6 c6) n6 (L6.map Value.bool)) (ho : W'.ownsRow b0 4 1 (.slice A3 (n6 + 1) c3) (n6 + 1) (L6.map Value.bool ++ [.bool f])) (hg : (W.alloc C).grownBy W' (A6.map (·.block))) :
    Blk W' b6 67 #[.slice A6 n6 c6] ∧ StJ w0 base b0 g b2 b5 b6 bS bN k m ch no co Ao out vS vN (W'.setCell ⟨b6, 0, none⟩ (.slice A3 (n6 + 1) c3)) n5 (n6 + 1) L5 (L6 ++ [f]) at_ bd := by
  have hs := h.size
  have hs0 := h.size0
  obtain ⟨r2, ⟨A5, c5, h5, h5'⟩, -, ⟨Ab, nb, cb, hn0, hne, hd⟩, hb, q5, q6, rS, rN, gS, gN, b00⟩ := h
  have hBa : Below W.heap.size W (W.alloc C) := (Below.refl _ _).alloc (Nat.le_refl _) _
  have h1a := h1.alloc C
  have k6 : Blk W' b6 67 #[.slice A6 n6 c6] := blk_grownE (h6.alloc C) h1a (by decide) hg
  have hL := (h5'.below hBa).apart h1a (by decide) (by decide) (Nat.le_refl _) hg
  have hBW : Below base w0 W' := below_app (hb.trans (hBa.mono hs)) hg (own_base h1a b00) (Nat.le_trans hs hBa.size)
  refine ⟨k6, blk_setT (blk_grownE (r2.alloc C) h1a (by decide) hg) k6 (by decide) _ _, ⟨A5, c5, ?_, ?_⟩, ⟨A3, c3, ?_, ?_⟩, ⟨Ab, nb, cb, hn0, hne, ?_, hd.ge, ?_, ?_⟩, hBW.setCell (p := ⟨b6, 0, none⟩) q6 _, q5, q6, ?_, ?_, gS, gN, b00⟩
  · exact blk_setT (blk_grownE (h5.alloc C) h1a (by decide) hg) k6 (by decide) _ _
  · exact hL.kept (by rw [World.size_setCell]; exact Nat.le_refl _) fun E _ _ _ _ _ hE ho => own_setT ho k6 (by rcases hE with rfl | rfl <;> decide) _ _
  · exact k6.set_ 0 _
  · rw [List.map_append]; exact own_setT ho k6 (by decide) _ _
  · exact blk_setT (blk_grownE (hd.blk.alloc C) h1a (by decide) hg) k6 (by decide) _ _
  · exact own_setT (own_apart (hd.oo.alloc C) h1a (by decide) hg) k6 (by decide) _ _
  · exact own_setT (own_apart (hd.ob.alloc C) h1a (by decide) hg) k6 (by decide) _ _
  · exact blk_setT (blk_grownO (rS.alloc C) h1a gS hg) k6 (by decide) _ _
  · exact blk_setT (blk_grownO (rN.alloc C) h1a gN hg) k6 (by decide) _ _
theorem StJ.cellsK {n5' n6' at'' : Nat} {L5' : List (List UInt8)} {L6' : List Bool} {bd' : List Nat} (h : StJ w0 base b0 g b2 b5 b6 bS bN k m ch no co Ao out vS vN W n5 n6 L5 L6 at_ bd) (h' : StJ w0 base b0 g b2 b5 b6 bS bN k m ch no co Ao out vS vN W' n5' n6' L5' L6' at'' bd') : CellsK bS bN W W' := fun v =>
  ⟨fun e => by rw [h.rS.cell 0] at e; exact (h'.rS.cell 0).trans e, fun e => by rw [h.rN.cell 0] at e; exact (h'.rN.cell 0).trans e⟩
end
/-- what is no cells stands -/
theorem KeepsFrom.part {W W' : World} {g b nb cb B : Nat} {Ab Ab' : Option Addr} {cs : Array Value} {vs : List Value} (h : Part2 W W' g Ab Ab') (hb : Blk W g 65 cs) (ho : W.ownsRow b 3 1 (.slice Ab nb cb) nb vs) : KeepsFrom B W W' :=
  ⟨h.size, fun k o _ hk hc => by
    refine (h.heap k (lt_of_heap hk) ?_ ?_).trans hk
    · rintro rfl
      have hb' : W.heap[k]? = some (.cells cs 65) := hb
      rw [hb'] at hk
      injection hk with hk
      rw [← hk] at hc
      exact absurd hc (by simp [Obj.isCells])
    · intro e
      obtain ⟨cs2, fr2, hc2⟩ := own_row ho k e
      rw [hk] at hc2
      injection hc2 with hc2
      rw [hc2] at hc
      exact absurd hc (by simp [Obj.isCells])⟩
theorem KeepsFrom.app {W W' : World} {b n c B : Nat} {A : Option Addr} {E : TypeId} {vs : List Value} {C : Obj} (ho : W.ownsRow b E 1 (.slice A n c) n vs) (hg : (W.alloc C).grownBy W' (A.map (·.block))) (p : Addr) (u : Value) : KeepsFrom B W (W'.setCell p u) :=
  (((KeepsOthers.alloc W C).trans (KeepsOthers.of_grownBy hg fun j o hj ho' => by
    obtain ⟨cs, fr, hc⟩ := own_row (ho.alloc C) j hj
    rw [hc] at ho'
    injection ho' with ho'
    rw [← ho']; rfl)).trans (KeepsOthers.setCell W' p u)).from B
/-- lists of bytes as slabs -/
theorem slabs_rows {W : World} {B n k : Nat} {A : Option Addr} {xss : List (List UInt8)} (h : Rows8 W B A n xss) (hk : k ≤ n) (hB : B ≤ W.heap.size) : Slabs W W.heap.size A k ((xss.take k).map (List.map B8)) := by
  have hl := h.len
  refine ⟨by rw [List.length_map, List.length_take]; omega, fun j hj => ?_⟩
  obtain ⟨ad, xs, Ai, ni, ci, hA, _, hx, hc, _, _, hr⟩ := h.row (show j < n by omega)
  exact ⟨ad, Ai, ni, ci, xs.map B8, hA, by rw [List.getElem?_map, List.getElem?_take, if_pos hj, hx]; rfl, hc, hr.more hB, row_one hr⟩
theorem slabs_flat (xss : List (List UInt8)) (k : Nat) : ((xss.take k).map (List.map B8)).flatten = ((xss.take k).flatten).map B8 := by rw [List.map_flatten]
theorem slabs_total {L : Nat} (xss : List (List UInt8)) (h : ∀ x ∈ xss, x.length = L) : total (xss.map (List.map B8)) = xss.length * L := by
  unfold total
  rw [← List.map_flatten, List.length_map, Stp.flat_len _ h]
theorem info_boolu : (Tryd.prog.info? 4).map (fun i => (i.zero, i.size, i.bytes)) = some (some (.bool false), 1, 1) := by kernel_rfl
/-- a word on every way out but a panic -/
def noPanic (Q : Exit → Act → World → Prop) : Exit → Act → World → Prop
  | .panic _, _, _ => False
  | e, a, w => Q e a w
theorem noPanic_imp {Q : Exit → Act → World → Prop} {e : Exit} {a : Act} {w : World} (h : noPanic Q e a w) : Q e a w := by
  cases e <;> first | exact h | exact h.elim
/-- what reading a stripe hands back -/
def StRet (w : World) (base g k m ch q ce at_ : Nat) (out xs : List UInt8) (bd : List Nat) (e : Ending) (w' : World) : Prop :=
  e = .returned (.int .i64 (Stp.csE k m (Stp.partsB q ce xs))) ∧ Below base w w' ∧ (Stp.csE k m (Stp.partsB q ce xs) = 0 → ∃ Ao no co Ab nb cb, nb ≤ at_ + q ∧ Rdr w' base g k m ch Ao no co Ab nb cb (at_ + q) (out ++ Stp.csV k m (Stp.partsB q ce xs)) (bd ++ Stp.badL at_ (Stp.goodL (Stp.partsB q ce xs))))
set_option maxRecDepth 100000 in
set_option maxHeartbeats 16000000 in
theorem stripe_in (base g k m ch q ce L no co nb cb at_ : Nat) (Ao Ab A : Option Addr) (c : Nat) (out xs : List UInt8) (bd : List Nat) (w : World) (ht : Tab w) (htb : 0 < base) (hR : Rdr w base g k m ch Ao no co Ab nb cb at_ out bd) (hb : base ≤ w.heap.size) (hr : Reads w base 1 A L (xs.map B8)) (hLc : L ≤ c) (hcm : c ≤ maxLen)
    (hq : k + m = q) (hce : ch + 4 = ce) (hL : L = q * ce) (k1 : 1 ≤ k) (km : q ≤ 255) (c1' : 1 ≤ ch) (c2' : ch ≤ 4096) (ha : at_ ≤ 16777216) (hnb : nb ≤ at_) (hno : no + k * ch ≤ 16777216) :
    Calls Tryd.prog 31 #[.pointer (some ⟨g, 0, none⟩), .slice A L c] w (StRet w base g k m ch q ce at_ out xs bd) := by
  have hL2 : L ≤ 1045500 := by
    have := Stp.laid_le (show k + m ≤ 255 by omega) c2'
    rw [hq, hce, ← hL] at this; exact this
  have hxl := hr.len
  have hc4 : (ch : Int) + 4 = (ce : Int) := by omega
  have hce1 : ce ≤ 4100 := by omega
  have hce2 : 1 ≤ ce := by omega
  have hb1 := hR.blk
  have hbA := ((hb1.alloc (.cells #[.pointer (some ⟨g, 0, none⟩)] 63)).alloc (.cells #[.slice none 0 0] 55)).alloc (.cells #[.slice none 0 0] 67)
  have c2 := hbA.cell 2
  have n2 : Blk (((w.alloc (.cells #[.pointer (some ⟨g, 0, none⟩)] 63)).alloc (.cells #[.slice none 0 0] 55)).alloc (.cells #[.slice none 0 0] 67)) w.heap.size 63 #[.pointer (some ⟨g, 0, none⟩)] := ((Blk.new w _ _).alloc _).alloc _
  have n5 : Blk (((w.alloc (.cells #[.pointer (some ⟨g, 0, none⟩)] 63)).alloc (.cells #[.slice none 0 0] 55)).alloc (.cells #[.slice none 0 0] 67)) (w.heap.size + 1) 55 #[.slice none 0 0] := by
    have h := (Blk.new (w.alloc (.cells #[.pointer (some ⟨g, 0, none⟩)] 63)) 55 #[.slice none 0 0]).alloc (.cells #[.slice none 0 0] 67)
    rwa [World.size_alloc] at h
  have n6 : Blk (((w.alloc (.cells #[.pointer (some ⟨g, 0, none⟩)] 63)).alloc (.cells #[.slice none 0 0] 55)).alloc (.cells #[.slice none 0 0] 67)) (w.heap.size + 1 + 1) 67 #[.slice none 0 0] := by
    have h := Blk.new ((w.alloc (.cells #[.pointer (some ⟨g, 0, none⟩)] 63)).alloc (.cells #[.slice none 0 0] 55)) 67 #[.slice none 0 0]
    rwa [World.size_alloc, World.size_alloc] at h
  have hBA : Below w.heap.size w (((w.alloc (.cells #[.pointer (some ⟨g, 0, none⟩)] 63)).alloc (.cells #[.slice none 0 0] 55)).alloc (.cells #[.slice none 0 0] 67)) := (((Below.refl _ _).alloc (Nat.le_refl _) _).alloc (by simp) _).alloc (by simp; omega) _
  replace hbA := Lib.hid hbA; replace n2 := Lib.hid n2; replace n5 := Lib.hid n5; replace n6 := Lib.hid n6; replace hBA := Lib.hid hBA
  have KChk := Lib.hid (fun W => chunk_any A L c ce W hce2)
  have HQ := Lib.hid hq; have HCE := Lib.hid hce; have HL := Lib.hid hL; have HR := Lib.hid hR; have HRD := Lib.hid hr; have HT := Lib.hid ht
  have HB := Lib.hid hb
  clear hq hce hL hR hr ht hxl
  refine (callsIn_wide (n := 5)).1 (callsIn_of_wp_marks Tryd.func31 rfl trivial ?_ rfl)
  simp only [Tryd.ntmps31, List.size_toArray, List.length_cons, List.length_nil, Nat.reduceAdd, Nat.reduceSub, Array.replicate_succ, Array.replicate_zero, List.push_toArray, List.append_toArray, List.nil_append, List.cons_append]
  refine wpIn_wide.2 ?_
  refine Code.wp_mono (Q := noPanic (bodyPostM Fence.wide 5 Tryd.prog Tryd.f31 (StRet w base g k m ch q ce at_ out xs bd))) (fun e a w h => noPanic_imp h) ?_
  go_wp2_with fail
  generalize hw3 : ((w.alloc (.cells #[.pointer (some ⟨g, 0, none⟩)] 63)).alloc (.cells #[.slice none 0 0] 55)).alloc (.cells #[.slice none 0 0] 67) = w3 at *
  replace hw3 := Lib.hid hw3
  refine (KChk.out _).mono ?_; rintro e w4 ⟨rfl, rfl⟩
  clear c2 KChk
  go_wp2_with fail
  have hw3s : w.heap.size ≤ w3.heap.size := hBA.out.size
  obtain ⟨W4, hW4⟩ : ∃ W4, (w3.alloc (.cells #[.slice A L c] 27)).alloc (.cells #[.int .i64 ce] 3) = W4 := ⟨_, rfl⟩
  have hB4 : Below w3.heap.size w3 W4 := by rw [← hW4]; exact ((Below.refl _ _).alloc (Nat.le_refl _) _).alloc (by simp) _
  have hB4w : Below w.heap.size w W4 := below_then hBA.out hB4
  have hs4 : w3.heap.size + 2 = W4.heap.size := by rw [← hW4]; simp
  have rS4 : Blk W4 w3.heap.size 27 #[.slice A L c] := by
    rw [← hW4]; exact (Blk.new w3 27 #[.slice A L c]).alloc (.cells #[.int .i64 ce] 3)
  have rN4 : Blk W4 (w3.heap.size + 1) 3 #[.int .i64 ce] := by
    have h := Blk.new (w3.alloc (.cells #[.slice A L c] 27)) 3 #[.int .i64 ce]
    rw [World.size_alloc, hW4] at h; exact h
  have q1 := rS4.cell 0
  have q2 := rN4.cell 0
  have hI0 : StJ w base W4.heap.size g w.heap.size (w.heap.size + 1) (w.heap.size + 1 + 1) w3.heap.size (w3.heap.size + 1) k m ch no co Ao out (.slice A L c) (.int .i64 ce) W4 0 0 [] [] (at_ + 0) (bd ++ Stp.badL at_ []) := by
    refine ⟨n2.out.below hB4 n2.out.lt, ⟨none, 0, n5.out.below hB4 n5.out.lt, Lists.nil _ _ _ (Nat.zero_le _) (Nat.le_refl _)⟩, ⟨none, 0, n6.out.below hB4 n6.out.lt, World.ownsRow_nil _ _ _ _⟩, ⟨Ab, nb, cb, hnb, fun e => by have := own_lt HR.out.ob _ e; omega, ?_⟩, hB4w.mono HB.out, by omega, by omega, rS4, rN4, by omega, by omega, by omega⟩
    have : bd ++ Stp.badL at_ [] = bd := by simp [Stp.badL]
    rw [this]
    exact HR.out.below hB4w
  rw [hW4]
  have hW4s : w.heap.size ≤ W4.heap.size := hB4w.size
  replace hI0 := Lib.hid hI0; replace hW4 := Lib.hid hW4; replace hB4 := Lib.hid hB4; replace hB4w := Lib.hid hB4w
  clear n2 n5 n6 hbA hBA rS4 rN4
  obtain ⟨i1, hi_, hy0, hy1, hy2⟩ := info_parts info_row8
  replace hi_ := Lib.hid hi_; replace hy0 := Lib.hid hy0; replace hy1 := Lib.hid hy1; replace hy2 := Lib.hid hy2
  obtain ⟨i3, hk, hw0, hw1, hw2⟩ := info_parts info_boolu
  replace hk := Lib.hid hk; replace hw0 := Lib.hid hw0; replace hw1 := Lib.hid hw1; replace hw2 := Lib.hid hw2
  refine (wpIn_wide (n := 4)).1 ?_
  refine wpIn_rangeFunc_ownG (F := Fence.wide) (n := 4) rfl (by omega) (gf := 36) (lb := #[.pointer (some ⟨w3.heap.size, 0, none⟩), .pointer (some ⟨w3.heap.size + 1, 0, none⟩)]) rfl trivial (enters_of Tryd.func36 (by kernel_rfl) rfl)
    (chunk_stopsC Fence.wide 3 trivial rfl (by omega) w3.heap.size (w3.heap.size + 1) A L c ce q HL.out hce2 hLc (by omega) W4 q1 q2 (by omega) (by omega)) (fun h k => CellsK.trans h k) (fun W l o o' h1 h2 h3 h4 => CellsK.put _ _ W l o o' h1 h2 h3 h4) (Below.refl _ _) (fun _ => rfl)
    (fun (pre : List (Fin q)) W => StJ w base W4.heap.size g w.heap.size (w.heap.size + 1) (w.heap.size + 1 + 1) w3.heap.size (w3.heap.size + 1) k m ch no co Ao out (.slice A L c) (.int .i64 ce) W pre.length pre.length (pre.map fun x => Crcp.cutV (Stp.chunkB xs ce x.val)) (pre.map fun x => Stp.goodB (Stp.chunkB xs ce x.val)) (at_ + pre.length) (bd ++ Stp.badL at_ (pre.map fun x => Stp.goodB (Stp.chunkB xs ce x.val))))
    (fun _ _ _ => False)
    (fun pre W W' row h hg hr => h.keepAll (Nat.le_trans HB.out hW4s) hg hr)
    (fun _ _ _ _ _ hs _ _ => hs)
    hI0.out
    (fun x => { tmps := #[.pointer (some ⟨g, 0, none⟩), .slice A L c, .pointer (some ⟨w.heap.size, 0, none⟩), undef, .int .i64 0, .pointer (some ⟨w.heap.size + 1, 0, none⟩), .pointer (some ⟨w.heap.size + 1 + 1, 0, none⟩), chunkV A ce x.val, undef, undef, undef, undef, undef, undef, .slice A L c, .pointer (some ⟨g, 0, none⟩), .pointer (some ⟨g, 0, none⟩), .pointer (some ⟨g, 0, none⟩), .pointer (some ⟨g, 2, none⟩), .int .i64 ch, .int .i64 ce, chunkF w3.heap.size (w3.heap.size + 1), chunkV A ce x.val, undef, undef, undef, undef, undef, undef, undef, undef, undef, undef, undef, undef, undef, undef, undef, undef, undef, undef, undef, undef, undef, undef, undef, undef, undef, undef, undef, undef, undef, undef, undef, undef, undef, undef, undef, undef, undef, undef, undef, undef, undef, undef, undef, undef, undef, undef, undef, undef, undef, undef, undef, undef, undef, undef, undef, undef, undef, undef, undef, undef, undef, undef, undef, undef, undef, undef, undef, undef, undef, undef], defers := [] }) ?assign ?body ?done ?stop
  case assign =>
    intro l x W K hK
    gi_wp2
    exact hK
  case body =>
    rintro l pre x W hI hlt
    have hJ := Lib.hid hI
    obtain ⟨hr2, ⟨A5, c5, h5, h5'⟩, ⟨A6, c6, h6, h6'⟩, ⟨Ab, nb, cb, hnb, hne, hd⟩, hBw, q5, q6, -, -, -, -, -⟩ := hI
    have hs0 := hJ.out.size0
    have hsz := hJ.out.size
    obtain ⟨Ax, hAx⟩ : ∃ Ax, A.map (·.add (x.val * ce)) = Ax := ⟨_, rfl⟩
    have hx : chunkV A ce x.val = .slice Ax ce ce := by unfold chunkV; rw [hAx]
    have hxq : (x.val + 1) * ce ≤ L := by rw [HL.out]; exact Nat.mul_le_mul_right _ x.isLt
    have hRx : Reads W W.heap.size 1 Ax ce ((Stp.chunkB xs ce x.val).map B8) := by
      rw [← hAx]
      exact ((HRD.out.below hBw).more hsz).chunk hxq
    have hBl : (Stp.chunkB xs ce x.val).length = ce := hRx.len
    have KP := part_in base g k m ch no co nb cb (at_ + pre.length) Ao Ab Ax ce ce out (Stp.chunkB xs ce x.val) _ W (HT.out.below hBw htb) hd hsz hRx (Nat.le_refl _) (by unfold maxLen; omega) (by omega) (by omega) hnb
    simp only [hx]
    generalize hBx : Stp.chunkB xs ce x.val = B at *
    have hvl : (Crcp.cutV B).length ≤ ch := Stp.cutV_le (by rw [hBl]; exact HCE.out.symm)
    unfold PartRet at KP
    generalize hV : Crcp.cutV B = V at *
    generalize hG : Stp.goodB B = G at *
    obtain ⟨lv, hlv⟩ : ∃ lv, V.length = lv := ⟨_, rfl⟩
    rw [hlv] at KP hvl
    have c2 := hr2.cell 0
    replace hr2 := Lib.hid hr2; replace h5 := Lib.hid h5; replace h5' := Lib.hid h5'; replace h6 := Lib.hid h6; replace h6' := Lib.hid h6'; replace hd := Lib.hid hd; replace hBw := Lib.hid hBw
    replace KP := Lib.hid KP; replace hRx := Lib.hid hRx; replace hV := Lib.hid hV; replace hG := Lib.hid hG; replace hBx := Lib.hid hBx; replace hlv := Lib.hid hlv
    clear hx hAx
    gi_wp2
    refine ⟨trivial, (CallsIn.inRound l (callsIn_wide.2 KP.out)).mono ?_⟩
    rintro e W1 ⟨Ap, cp, Ab', nb', cb', rfl, hp, hd1, hn1, hB1, hK1⟩
    have hJ1 := StJ.part hJ.out hd.out hne hd1 hn1 hB1 hK1
    have hKF := KeepsFrom.part (B := W4.heap.size) hK1 hd.out.blk hd.out.ob
    have hp1 := own_base hp hs0
    have hCK : CellsK w3.heap.size (w3.heap.size + 1) W W1 := StJ.cellsK hJ.out hJ1
    clear hd1 hp hB1 hK1 KP hr2 h5 h5' h6 h6' hd c2
    obtain ⟨A5, c5, k5, k5'⟩ := hJ1.r5
    obtain ⟨⟨vs, v1, v2, v3⟩, -, -⟩ := k5'
    obtain ⟨A6, c6, k6, k6'⟩ := hJ1.r6
    have hs1 := hJ1.size0
    have c5' := k5.cell 0
    replace k5 := Lib.hid k5; replace v1 := Lib.hid v1; replace v2 := Lib.hid v2; replace v3 := Lib.hid v3; replace k6 := Lib.hid k6; replace k6' := Lib.hid k6'
    replace hJ1 := Lib.hid hJ1; replace hKF := Lib.hid hKF; replace hp1 := Lib.hid hp1; replace hCK := Lib.hid hCK
    have hpl : pre.length + 1 ≤ 256 := by omega
    have hc1 : pre.length + 1 ≤ maxLen := by unfold maxLen; omega
    have hc2 : (pre.length + 1) * 24 ≤ 140737488355328 := by omega
    have hc3 : (pre.length + 1) * 1 ≤ 140737488355328 := by omega
    have hbs : W4.heap.size ≤ (W1.alloc (.cells #[.slice Ap lv cp] 27)).heap.size := Nat.le_trans hs1 (by simp)
    gi_wp2_with (first | (gi_at_builtin; refine wpListIn_append_own _ rfl _ _ 55 rfl W4.heap.size 27 i1 (.slice none 0 0) 1 24 Tryd.underlying55 hi_.out hy0.out hy1.out hy2.out rfl (by decide) _ _ _ rfl (v1.out.alloc _) ⟨W1.heap.size, 0, none⟩ 1 1 [.slice Ap lv cp] rfl rfl (cell_one_new _ _ _) (by simp [Value.oneCell']) hc1 hc2 hbs ?_; intro v' w2 ho2 hg2 _; obtain ⟨g5', cap5, rfl⟩ := ownsRow_succ ho2; have hg2' : (W1.alloc (.cells #[.slice Ap lv cp] 27)).grownBy w2 (A5.map (·.block)) := (ownBlock_slice A5 pre.length c5) ▸ hg2; replace hg2 := hg2'; have hA5 := StJ.app5 hJ1.out k5.out v1.out v2.out v3.out hlv.out hp1.out ho2 hg2; have hKF2 := Lib.hid (hKF.out.trans (KeepsFrom.app (B := W4.heap.size) v1.out hg2 ⟨w.heap.size + 1, 0, none⟩ (.slice (some ⟨g5', 0, none⟩) (pre.length + 1) cap5))); have cc5 := hA5.1.cell 0; have ff5 := hA5.1.frozen 0; have hJ2 := Lib.hid hA5.2; have k6w := blk_grownE (k6.out.alloc (.cells #[.slice Ap lv cp] 27)) (v1.out.alloc _) (by decide) hg2; have c6c := k6w.cell 0; have k6s := Lib.hid (blk_setT k6w hA5.1 (by decide) 0 (.slice (some ⟨g5', 0, none⟩) (pre.length + 1) cap5)); have v6s := Lib.hid (own_setT (own_apart (k6'.out.alloc (.cells #[.slice Ap lv cp] 27)) (v1.out.alloc _) (by decide) hg2) hA5.1 (by decide) 0 (.slice (some ⟨g5', 0, none⟩) (pre.length + 1) cap5)); have c6d := k6s.out.cell 0; have hbs2 : W4.heap.size ≤ ((w2.setCell ⟨w.heap.size + 1, 0, none⟩ (.slice (some ⟨g5', 0, none⟩) (pre.length + 1) cap5)).alloc (.cells #[.bool G] 4)).heap.size := Nat.le_trans hJ2.out.size0 (by simp); replace hbs2 := Lib.hid hbs2; have hcn : Hid (∀ (j : Nat) (u : Value), [Value.bool G][j]? = some u → ((w2.setCell ⟨w.heap.size + 1, 0, none⟩ (.slice (some ⟨g5', 0, none⟩) (pre.length + 1) cap5)).alloc (.cells #[.bool G] 4)).cell? ((⟨w2.heap.size, 0, none⟩ : Addr).add j) = some u) := (fun j u hu => by have h := cell_one_new (w2.setCell ⟨w.heap.size + 1, 0, none⟩ (.slice (some ⟨g5', 0, none⟩) (pre.length + 1) cap5)) (.bool G) 4 j u hu; rwa [World.size_setCell] at h); clear hA5 ho2 hg2 hg2' v1 v2 v3 k5 k6 k6' k6w) | (gi_at_builtin; refine wpListIn_append_own _ rfl _ _ 67 rfl W4.heap.size 4 i3 (.bool false) 1 1 Tryd.underlying67 hk.out hw0.out hw1.out hw2.out rfl (by decide) _ _ _ rfl (v6s.out.alloc _) ⟨w2.heap.size, 0, none⟩ 1 1 [.bool G] rfl rfl hcn.out (by simp [Value.oneCell']) hc1 hc3 hbs2.out ?_; intro v'' w5 ho5 hg5 _; obtain ⟨g6', cap6, rfl⟩ := ownsRow_succ ho5; have hg5' : ((w2.setCell ⟨w.heap.size + 1, 0, none⟩ (.slice (some ⟨g5', 0, none⟩) (pre.length + 1) cap5)).alloc (.cells #[.bool G] 4)).grownBy w5 (A6.map (·.block)) := (ownBlock_slice A6 pre.length c6) ▸ hg5; have hA6 := StJ.app6 hJ2.out k6s.out v6s.out ho5 hg5'; have hKF3 := Lib.hid (hKF2.out.trans (KeepsFrom.app (B := W4.heap.size) v6s.out hg5' ⟨w.heap.size + 1 + 1, 0, none⟩ (.slice (some ⟨g6', 0, none⟩) (pre.length + 1) cap6))); have cc6 := hA6.1.cell 0; have ff6 := hA6.1.frozen 0; have hJ3 := Lib.hid hA6.2; clear hA6 ho5 hg5 hg5' hcn hbs2 c6c c6d))
    refine ⟨hKF3.out, StJ.cellsK hJ.out hJ3.out, ?_⟩
    have h3 := hJ3.out
    simp only [List.length_append, List.length_singleton, List.map_append, List.map_cons, List.map_nil]
    rw [hBx.out, hV.out, hG.out, Stp.badL_snoc, List.length_map, ← List.append_assoc, ← Nat.add_assoc at_]
    exact h3
  case done =>
    rintro D ys W hD rfl hI hK
    rw [List.length_finRange, Stp.fin_map q (fun i => Crcp.cutV (Stp.chunkB xs ce i)), Stp.fin_map q (fun i => Stp.goodB (Stp.chunkB xs ce i))] at hI
    have hcl : Hid ((Stp.partsB q ce xs).length = q) := Stp.partsB_len ..
    have hcL : Hid (∀ x ∈ Stp.partsB q ce xs, x.length = ch + 4) := by
      rw [Hid, HCE.out]
      exact Stp.partsB_all (by rw [HRD.out.len]; exact HL.out)
    have e1 : (List.range q).map (fun i => Crcp.cutV (Stp.chunkB xs ce i)) = Stp.cutL (Stp.partsB q ce xs) := by unfold Stp.cutL Stp.partsB; rw [List.map_map]; rfl
    have e2 : (List.range q).map (fun i => Stp.goodB (Stp.chunkB xs ce i)) = Stp.goodL (Stp.partsB q ce xs) := by unfold Stp.goodL Stp.partsB; rw [List.map_map]; rfl
    rw [e1, e2] at hI
    clear e1 e2
    generalize hcs : Stp.partsB q ce xs = cs at *
    replace hcs := Lib.hid hcs
    have hJ := Lib.hid hI
    obtain ⟨hr2, ⟨A5, c5, h5, h5'⟩, ⟨A6, c6, h6, h6'⟩, ⟨Ab, nb, cb, hnb, hne, hd⟩, hBw, q5, q6, -, -, -, -, -⟩ := hI
    have hDlt : D < W.heap.size := lt_of_heap hK
    have hDw : w.heap.size ≤ D := Nat.le_trans hW4s hD
    have SB : Hid (∀ V, Below W.heap.size W V → V.cell? ⟨w.heap.size, 0, none⟩ = some (.pointer (some ⟨g, 0, none⟩)) ∧ V.cell? ⟨g, 0, none⟩ = some (.int .i64 k) ∧ V.cell? ⟨g, 1, none⟩ = some (.int .i64 m) ∧ V.cell? ⟨w.heap.size + 1, 0, none⟩ = some (.slice A5 q c5) ∧ V.cell? ⟨w.heap.size + 1 + 1, 0, none⟩ = some (.slice A6 q c6)) := fun V hV =>
      ⟨(hr2.below hV hr2.lt).cell 0, (hd.blk.below hV hd.blk.lt).cell 0, (hd.blk.below hV hd.blk.lt).cell 1, (h5.below hV h5.lt).cell 0, (h6.below hV h6.lt).cell 0⟩
    have hS0 := SB.out W.drew (Below.refl _ _).drew
    have hD0 : Below W.heap.size W W.drew := (Below.refl _ _).drew
    have KM := mend_in k m q A5 A6 c5 c6 (Stp.cutL cs) (Stp.goodL cs) W.drew HQ.out k1 km (h5'.below hD0).rows8 (Reads.of_own (own_belowL h6' hD0)) (fun x hx => by
      unfold Stp.cutL at hx
      obtain ⟨y, hy, rfl⟩ := List.mem_map.1 hx
      have := Stp.cutV_le (hcL.out y hy); omega)
    have hme := Stp.cs_mendE k1 HQ.out km hcl.out hcL.out
    have hmv := Lib.hid (fun h0 => Stp.cs_mendV k1 HQ.out km hcl.out hcL.out h0)
    have hcE : Stp.csE k m cs = if Rsp.mendE k m (Stp.cutL cs) (Stp.goodL cs) = 0 then (if Stp.clash (k + m) (Stp.goodL cs) (Stp.cutL cs) (Rsp.mendV k m (Stp.cutL cs) (Stp.goodL cs)) = true then 2 else 0) else Rsp.mendE k m (Stp.cutL cs) (Stp.goodL cs) := rfl
    have hcV : Stp.csV k m cs = ((Rsp.mendV k m (Stp.cutL cs) (Stp.goodL cs)).take k).flatten := rfl
    have hgl : Hid ((Stp.goodL cs).length = q) := by rw [Hid, Stp.goodL_len]; exact hcl.out
    have hpl : Hid ((Stp.cutL cs).length = q) := by rw [Hid, Stp.cutL_len]; exact hcl.out
    have hpL : Hid (∀ x ∈ Stp.cutL cs, x.length ≤ 4096) := fun x hx => by
      unfold Stp.cutL at hx
      obtain ⟨y, hy, rfl⟩ := List.mem_map.1 hx
      have := Stp.cutV_le (hcL.out y hy); omega
    generalize Rsp.mendV k m (Stp.cutL cs) (Stp.goodL cs) = V at *
    generalize Rsp.mendE k m (Stp.cutL cs) (Stp.goodL cs) = er at *
    unfold LsErr at KM
    replace hcE := Lib.hid hcE; replace hcV := Lib.hid hcV
    replace KM := Lib.hid KM
    replace hr2 := Lib.hid hr2; replace h5 := Lib.hid h5; replace h5' := Lib.hid h5'; replace h6 := Lib.hid h6; replace h6' := Lib.hid h6'; replace hd := Lib.hid hd; replace hBw := Lib.hid hBw; replace hD0 := Lib.hid hD0
    replace hK := Lib.hid hK
    by_cases he : er = 0
    · subst he
      have hmv0 := hmv.out rfl
      obtain ⟨hVn, hVl⟩ := hmv0
      rw [hVn] at KM
      rw [if_pos rfl] at hcE
      have VN := Lib.hid hVn
      have VL := Lib.hid hVl
      clear hme hmv hVn hVl
      generalize Stp.cutL cs = PA at *
      generalize hGO : Stp.goodL cs = GO at *
      replace hGO := Lib.hid hGO
      go_wp2_with fail
      refine region_E 18 (fun V => V.cell? ⟨w.heap.size, 0, none⟩ = some (.pointer (some ⟨g, 0, none⟩)) ∧ V.cell? ⟨g, 0, none⟩ = some (.int .i64 k) ∧ V.cell? ⟨g, 1, none⟩ = some (.int .i64 m) ∧ V.cell? ⟨w.heap.size + 1, 0, none⟩ = some (.slice A5 q c5) ∧ V.cell? ⟨w.heap.size + 1 + 1, 0, none⟩ = some (.slice A6 q c6)) (by kernel_rfl) hS0 (fun hHeld => ?_)
      refine took 0 (v := ?_) rfl (by kernel_rfl) (by kernel_rfl) (by kernel_rfl) (by kernel_rfl) (fun _ _ _ h => h) (by rfl) (by assumption) ?_ ?_
      rotate_left
      · (intro W hSw; (try dsimp only at hSw); go_simp; first | done | with_reducible rfl)
      try simp only [Act.put, List.setIfInBounds_toArray, List.set_cons_zero, List.set_cons_succ]
      refine took 1 (v := ?_) rfl (by kernel_rfl) (by kernel_rfl) (by kernel_rfl) (by kernel_rfl) (fun _ _ _ h => h) (by rfl) (by assumption) ?_ ?_
      rotate_left
      · (intro W hSw; (try dsimp only at hSw); go_simp; first | done | with_reducible rfl)
      try simp only [Act.put, List.setIfInBounds_toArray, List.set_cons_zero, List.set_cons_succ]
      refine took 2 (v := ?_) rfl (by kernel_rfl) (by kernel_rfl) (by kernel_rfl) (by kernel_rfl) (fun _ _ _ h => h) (by rfl) (by assumption) ?_ ?_
      rotate_left
      · (intro W hSw; (try dsimp only at hSw); go_simp; first | done | with_reducible rfl)
      try simp only [Act.put, List.setIfInBounds_toArray, List.set_cons_zero, List.set_cons_succ]
      refine took 3 (v := ?_) rfl (by kernel_rfl) (by kernel_rfl) (by kernel_rfl) (by kernel_rfl) (fun _ _ _ h => h) (by rfl) (by assumption) ?_ ?_
      rotate_left
      · (intro W hSw; (try dsimp only at hSw); go_simp; first | done | with_reducible rfl)
      try simp only [Act.put, List.setIfInBounds_toArray, List.set_cons_zero, List.set_cons_succ]
      refine took 4 (v := ?_) rfl (by kernel_rfl) (by kernel_rfl) (by kernel_rfl) (by kernel_rfl) (fun _ _ _ h => h) (by rfl) (by assumption) ?_ ?_
      rotate_left
      · (intro W hSw; (try dsimp only at hSw); go_simp; first | done | with_reducible rfl)
      try simp only [Act.put, List.setIfInBounds_toArray, List.set_cons_zero, List.set_cons_succ]
      refine took 5 (v := ?_) rfl (by kernel_rfl) (by kernel_rfl) (by kernel_rfl) (by kernel_rfl) (fun _ _ _ h => h) (by rfl) (by assumption) ?_ ?_
      rotate_left
      · (intro W hSw; (try dsimp only at hSw); go_simp; first | done | with_reducible rfl)
      try simp only [Act.put, List.setIfInBounds_toArray, List.set_cons_zero, List.set_cons_succ]
      refine took 6 (v := ?_) rfl (by kernel_rfl) (by kernel_rfl) (by kernel_rfl) (by kernel_rfl) (fun _ _ _ h => h) (by rfl) (by assumption) ?_ ?_
      rotate_left
      · (intro W hSw; (try dsimp only at hSw); go_simp; first | done | with_reducible rfl)
      try simp only [Act.put, List.setIfInBounds_toArray, List.set_cons_zero, List.set_cons_succ]
      refine took 7 (v := ?_) rfl (by kernel_rfl) (by kernel_rfl) (by kernel_rfl) (by kernel_rfl) (fun _ _ _ h => h) (by rfl) (by assumption) ?_ ?_
      rotate_left
      · (intro W hSw; (try dsimp only at hSw); go_simp; first | done | with_reducible rfl)
      try simp only [Act.put, List.setIfInBounds_toArray, List.set_cons_zero, List.set_cons_succ]
      refine took 8 (v := ?_) rfl (by kernel_rfl) (by kernel_rfl) (by kernel_rfl) (by kernel_rfl) (fun _ _ _ h => h) (by rfl) (by assumption) ?_ ?_
      rotate_left
      · (intro W hSw; (try dsimp only at hSw); go_simp; first | done | with_reducible rfl)
      try simp only [Act.put, List.setIfInBounds_toArray, List.set_cons_zero, List.set_cons_succ]
      refine took 9 (v := ?_) rfl (by kernel_rfl) (by kernel_rfl) (by kernel_rfl) (by kernel_rfl) (fun _ _ _ h => h) (by rfl) (by assumption) ?_ ?_
      rotate_left
      · (intro W hSw; (try dsimp only at hSw); go_simp; first | done | with_reducible rfl)
      try simp only [Act.put, List.setIfInBounds_toArray, List.set_cons_zero, List.set_cons_succ]
      refine took 10 (v := ?_) rfl (by kernel_rfl) (by kernel_rfl) (by kernel_rfl) (by kernel_rfl) (fun _ _ _ h => h) (by rfl) (by assumption) ?_ ?_
      rotate_left
      · (intro W hSw; (try dsimp only at hSw); go_simp; first | done | with_reducible rfl)
      try simp only [Act.put, List.setIfInBounds_toArray, List.set_cons_zero, List.set_cons_succ]
      refine took 11 (v := ?_) rfl (by kernel_rfl) (by kernel_rfl) (by kernel_rfl) (by kernel_rfl) (fun _ _ _ h => h) (by rfl) (by assumption) ?_ ?_
      rotate_left
      · (intro W hSw; (try dsimp only at hSw); go_simp; first | done | with_reducible rfl)
      try simp only [Act.put, List.setIfInBounds_toArray, List.set_cons_zero, List.set_cons_succ]
      refine carried 12 rfl (by kernel_rfl) (by rfl) (fun K hK => ?_)
      go_simp
      (go_at_call 47; ((with_reducible refine KM.out.mono ?_); rintro e w5 ⟨Ay, cy, rfl, hl5, hB5⟩); have HB5 := Lib.hid (below_then hD0.out hB5); have HY5 := Lib.hid hl5; clear hB5 hl5)
      refine hK.out _ _ ((SB.out _ HB5.out)) (fun hHeld => ?_)
      clear hK K
      try simp only [Act.put, List.setIfInBounds_toArray, List.set_cons_zero, List.set_cons_succ]
      refine took 13 (v := ?_) rfl (by kernel_rfl) (by kernel_rfl) (by kernel_rfl) (by kernel_rfl) (fun _ _ _ h => h) (by rfl) (by assumption) ?_ ?_
      rotate_left
      · (intro W hSw; (try dsimp only at hSw); go_simp; first | done | with_reducible rfl)
      try simp only [Act.put, List.setIfInBounds_toArray, List.set_cons_zero, List.set_cons_succ]
      refine took 14 (v := ?_) rfl (by kernel_rfl) (by kernel_rfl) (by kernel_rfl) (by kernel_rfl) (fun _ _ _ h => h) (by rfl) (by assumption) ?_ ?_
      rotate_left
      · (intro W hSw; (try dsimp only at hSw); go_simp; first | done | with_reducible rfl)
      try simp only [Act.put, List.setIfInBounds_toArray, List.set_cons_zero, List.set_cons_succ]
      refine took 15 (v := ?_) rfl (by kernel_rfl) (by kernel_rfl) (by kernel_rfl) (by kernel_rfl) (fun _ _ _ h => h) (by rfl) (by assumption) ?_ ?_
      rotate_left
      · (intro W hSw; (try dsimp only at hSw); go_simp; first | done | with_reducible rfl)
      try simp only [Act.put, List.setIfInBounds_toArray, List.set_cons_zero, List.set_cons_succ]
      refine took 16 (v := ?_) rfl (by kernel_rfl) (by kernel_rfl) (by kernel_rfl) (by kernel_rfl) (fun _ _ _ h => h) (by rfl) (by assumption) ?_ ?_
      rotate_left
      · (intro W hSw; (try dsimp only at hSw); go_simp; first | done | with_reducible rfl)
      try simp only [Act.put, List.setIfInBounds_toArray, List.set_cons_zero, List.set_cons_succ]
      refine took 17 (v := ?_) rfl (by kernel_rfl) (by kernel_rfl) (by kernel_rfl) (by kernel_rfl) (fun _ _ _ h => h) (by rfl) (by assumption) ?_ ?_
      rotate_left
      · (intro W hSw; (try dsimp only at hSw); go_simp; first | done | with_reducible rfl)
      try simp only [Act.put, List.setIfInBounds_toArray, List.set_cons_zero, List.set_cons_succ]
      refine allDone (by kernel_rfl) ?_ _
      have SB5 : Hid (∀ V, Below w5.heap.size w5 V → V.cell? ⟨w.heap.size, 0, none⟩ = some (.pointer (some ⟨g, 0, none⟩)) ∧ V.cell? ⟨g, 0, none⟩ = some (.int .i64 k) ∧ V.cell? ⟨g, 1, none⟩ = some (.int .i64 m) ∧ V.cell? ⟨w.heap.size + 1, 0, none⟩ = some (.slice A5 q c5) ∧ V.cell? ⟨w.heap.size + 1 + 1, 0, none⟩ = some (.slice A6 q c6)) := fun V hV => SB.out V (below_then HB5.out hV)
      have HL5 := Lib.hid (h5'.out.below HB5.out)
      have HF5 := Lib.hid (own_belowL h6'.out HB5.out)
      have HD5 := Lib.hid (hd.out.below HB5.out)
      have HBw5 := Lib.hid (hBw.out.trans (HB5.out.mono (Nat.le_trans HB.out (Nat.le_trans hDw (Nat.le_of_lt hDlt)))))
      have hK5 : Hid (w5.heap[D]? = some (.deferred (some []))) := (HB5.out.block D hDlt).trans hK.out
      have R5 := Lib.hid (hr2.out.below HB5.out hr2.out.lt)
      clear hHeld SB hS0 h5' h6' hd hBw hK KM HB5 h5 h6 hr2
      go_wp2_with fail
      go_loopw [58] (fun v58 wr => ∃ (x : Nat), v58 = .int .i64 (x : Nat) ∧ x ≤ q ∧ Hid (∀ y, y < x → GO.getD y false = true → V.getD y [] = PA.getD y []) ∧ Hid (Dr w5 wr)) (fun v58 _ => q - (intOf v58).toNat)
      case atStart => exact ⟨0, rfl, Nat.zero_le _, fun y hy => by omega, Dr.refl _⟩
      case round =>
        obtain ⟨x, rfl, hxq, HX, HDr⟩ := hrel
        by_cases hlt : x < q
        · have hlt' : (x : Int) < (q : Int) := by omega
          have hx0 : (0 : Int) ≤ (x : Int) := by omega
          have hBr : Below w5.heap.size w5 wr := HDr.out.below _
          obtain ⟨ad1, ys, A1, n1, c1, hA1, -, hys, hc1, -, -, hr1⟩ := (HDr.out.rows8 HY5.out.rows8).row hlt
          obtain ⟨ad2, zs, A2, n2, c2, hA2, -, hzs, hc2, -, -, hr2⟩ := (HDr.out.rows8 HL5.out.rows8).row hlt
          obtain ⟨ad3, u, hA3, -, hu, hc3⟩ := (Reads.of_own (HDr.out.own HF5.out)).at_ hlt
          rw [List.getElem?_map, List.getElem?_eq_getElem (by rw [hgl.out]; exact hlt)] at hu
          have hu' : Value.bool (GO[x]'(by rw [hgl.out]; exact hlt)) = u := by simpa using hu
          have hGx : GO.getD x false = GO[x]'(by rw [hgl.out]; exact hlt) := by rw [List.getD_eq_getElem?_getD, List.getElem?_eq_getElem (by rw [hgl.out]; exact hlt)]; rfl
          obtain ⟨f, hf⟩ : ∃ f, GO[x]'(by rw [hgl.out]; exact hlt) = f := ⟨_, rfl⟩
          rw [hf] at hu' hGx
          subst hu'
          subst hA1 hA2 hA3
          obtain ⟨k0, k1', k2, k3, k4⟩ := SB5.out wr hBr
          have hV1 : V.getD x [] = ys := by rw [List.getD_eq_getElem?_getD, hys]; rfl
          have hP1 : PA.getD x [] = zs := by rw [List.getD_eq_getElem?_getD, hzs]; rfl
          have hn1 : n1 ≤ 1000000000000 := by
            have := hr1.len
            have := VL.out ys (List.mem_of_getElem? hys); omega
          have hn2 : n2 ≤ 1000000000000 := by
            have h1 := hr2.len
            have h2 := hpL.out zs (List.mem_of_getElem? hzs); omega
          have KE := Lib.hid (equal_any A1 A2 n1 n2 c1 c2 _ _ ys zs wr hr1 hr2 hn1 hn2)
          replace hys := Lib.hid hys; replace hzs := Lib.hid hzs; replace hGx := Lib.hid hGx; replace hV1 := Lib.hid hV1; replace hP1 := Lib.hid hP1
          clear hu hf hr1 hr2 hBr
          cases f with
          | false =>
            clear KE
            go_wp2_with fail
            go_roundw
            case rel =>
              refine ⟨x + 1, by go_num, by omega, fun y hy hg => ?_, HDr⟩
              by_cases h : y < x
              · exact HX.out y h hg
              · have : y = x := by omega
                subst this
                rw [hGx.out] at hg; cases hg
            case measure => simp [intOf]; omega
          | true =>
            by_cases hyz : ys = zs
            · rw [decide_eq_true hyz] at KE
              go_wp2_with fail
              refine KE.out.mono ?_; rintro e w6 ⟨rfl, hD6⟩
              have HD6 := Lib.hid (HDr.out.trans hD6)
              clear KE hD6
              go_wp2_with fail
              go_roundw
              case rel =>
                refine ⟨x + 1, by go_num, by omega, fun y hy hg => ?_, HD6⟩
                by_cases h : y < x
                · exact HX.out y h hg
                · have : y = x := by omega
                  subst this
                  rw [hV1.out, hP1.out]; exact hyz
              case measure => simp [intOf]; omega
            · rw [decide_eq_false hyz] at KE
              have h2 := hcE.out
              rw [if_pos (Stp.clash_yes (by rw [HQ.out]; exact hlt) hGx.out (by rw [hV1.out, hP1.out]; exact hyz))] at h2
              replace h2 := Lib.hid h2
              go_wp2_with fail
              refine KE.out.mono ?_; rintro e w6 ⟨rfl, hD6⟩
              have HD6 := HDr.out.trans hD6
              have hB6 : Below w5.heap.size w5 w6 := HD6.below _
              have hK6 : w6.heap[D]? = some (.deferred (some [])) := (hB6.block D (lt_of_heap hK5.out)).trans hK5.out
              have hb5 : base ≤ w5.heap.size := Nat.le_trans HD5.out.ge (Nat.le_of_lt HD5.out.blk.lt)
              have hBW6 := Lib.hid (HBw5.out.trans (hB6.mono hb5))
              replace hK6 := Lib.hid hK6
              clear KE hD6 HD6 hB6
              go_wp2_with fail
              refine ⟨by simp, .inl ⟨_, _, rfl, run_takeDeferred hK6.out, ?_⟩⟩
              refine ⟨_, results_tmp rfl _ _ _, ?_⟩
              unfold StRet
              rw [hcs.out, h2.out]
              refine ⟨rfl, ?_, fun h => absurd h (by decide)⟩
              exact hBW6.out.trans (belowK_b (w := w) HB.out w6 D _ _ hDw hK6.out rfl rfl)
        · have hge : ¬ (x : Int) < (q : Int) := by omega
          obtain rfl : x = q := by omega
          have hE0 : Hid (Stp.csE k m cs = 0) := by
            have h2 := hcE.out
            rw [Stp.clash_no (fun y hy hg => HX.out y (by rw [← HQ.out]; exact hy) hg)] at h2
            exact h2
          have hBr : Below w5.heap.size w5 wr := HDr.out.below _
          have hb5 : base ≤ w5.heap.size := Nat.le_trans HD5.out.ge (Nat.le_of_lt HD5.out.blk.lt)
          obtain ⟨W7, hW7⟩ : ∃ W7, W7 = wr := ⟨_, rfl⟩
          subst hW7
          have HD7 := Lib.hid (HD5.out.below hBr)
          have R7 := Lib.hid (R5.out.below hBr R5.out.lt)
          have HY7 := HY5.out.below hBr
          have HBw7 := Lib.hid (HBw5.out.trans (hBr.mono hb5))
          have hK7 : Hid (W7.heap[D]? = some (.deferred (some []))) := (hBr.block D (lt_of_heap hK5.out)).trans hK5.out
          have hb7 : base ≤ W7.heap.size := Nat.le_trans hb5 hBr.size
          have SB7 : Hid (∀ V, Below W7.heap.size W7 V → V.cell? ⟨w.heap.size, 0, none⟩ = some (.pointer (some ⟨g, 0, none⟩)) ∧ V.cell? ⟨g, 3, none⟩ = some (.slice Ao no co) ∧ V.cell? ⟨g, 0, none⟩ = some (.int .i64 k)) := fun V hV => ⟨(R7.out.below hV R7.out.lt).cell 0, (HD7.out.blk.below hV HD7.out.blk.lt).cell 3, (HD7.out.blk.below hV HD7.out.blk.lt).cell 0⟩
          have hDd : Below W7.heap.size W7 W7.drew := (Below.refl _ _).drew
          have hS7 := SB7.out _ hDd
          have hkx : k ≤ x := by have := HQ.out; omega
          have hcap := HY7.cap.1
          have hkc : (k : Int) ≤ (cy : Int) := by omega
          have hk0 : (0 : Int) ≤ (k : Int) := by omega
          have hVk : ∀ y ∈ V.take k, y.length = ch := fun y hy => VL.out y (List.mem_of_mem_take hy)
          have htl : (V.take k).length = k := by rw [List.length_take, VN.out]; omega
          have htot : total ((V.take k).map (List.map B8)) = k * ch := by rw [slabs_total _ hVk, htl]
          have KC := concat8_any Ay k cy ((V.take k).map (List.map B8)) W7.drew (by omega) (by rw [htot]; omega) (slabs_rows (HY7.below hDd).rows8 hkx (Nat.le_refl _))
          rw [htot, slabs_flat] at KC
          rw [← hcV.out] at KC
          generalize hM : k * ch = M at *
          replace hM := Lib.hid hM
          replace KC := Lib.hid KC
          obtain ⟨i0, hi, hz0, hz1, hz2⟩ := info_parts info_u8
          replace hi := Lib.hid hi; replace hz0 := Lib.hid hz0; replace hz1 := Lib.hid hz1; replace hz2 := Lib.hid hz2
          have hm1 : no + M ≤ maxLen := by unfold maxLen; omega
          have hm2 : (no + M) * 1 ≤ 140737488355328 := by omega
          replace hDd := Lib.hid hDd
          clear HX HDr hVk htl htot HY7 hBr HD5 R5 HY5 HBw5 hK5 SB5 HL5 HF5
          go_wp2_with fail
          refine region_E 14 (fun V => V.cell? ⟨w.heap.size, 0, none⟩ = some (.pointer (some ⟨g, 0, none⟩)) ∧ V.cell? ⟨g, 3, none⟩ = some (.slice Ao no co) ∧ V.cell? ⟨g, 0, none⟩ = some (.int .i64 k)) (by kernel_rfl) hS7 (fun hHeld => ?_)
          refine took 0 (v := ?_) rfl (by kernel_rfl) (by kernel_rfl) (by kernel_rfl) (by kernel_rfl) (fun _ _ _ h => h) (by rfl) (by assumption) ?_ ?_
          rotate_left
          · (intro W hSw; (try dsimp only at hSw); go_simp; first | done | with_reducible rfl)
          try simp only [Act.put, List.setIfInBounds_toArray, List.set_cons_zero, List.set_cons_succ]
          refine took 1 (v := ?_) rfl (by kernel_rfl) (by kernel_rfl) (by kernel_rfl) (by kernel_rfl) (fun _ _ _ h => h) (by rfl) (by assumption) ?_ ?_
          rotate_left
          · (intro W hSw; (try dsimp only at hSw); go_simp; first | done | with_reducible rfl)
          try simp only [Act.put, List.setIfInBounds_toArray, List.set_cons_zero, List.set_cons_succ]
          refine took 2 (v := ?_) rfl (by kernel_rfl) (by kernel_rfl) (by kernel_rfl) (by kernel_rfl) (fun _ _ _ h => h) (by rfl) (by assumption) ?_ ?_
          rotate_left
          · (intro W hSw; (try dsimp only at hSw); go_simp; first | done | with_reducible rfl)
          try simp only [Act.put, List.setIfInBounds_toArray, List.set_cons_zero, List.set_cons_succ]
          refine took 3 (v := ?_) rfl (by kernel_rfl) (by kernel_rfl) (by kernel_rfl) (by kernel_rfl) (fun _ _ _ h => h) (by rfl) (by assumption) ?_ ?_
          rotate_left
          · (intro W hSw; (try dsimp only at hSw); go_simp; first | done | with_reducible rfl)
          try simp only [Act.put, List.setIfInBounds_toArray, List.set_cons_zero, List.set_cons_succ]
          refine took 4 (v := ?_) rfl (by kernel_rfl) (by kernel_rfl) (by kernel_rfl) (by kernel_rfl) (fun _ _ _ h => h) (by rfl) (by assumption) ?_ ?_
          rotate_left
          · (intro W hSw; (try dsimp only at hSw); go_simp; first | done | with_reducible rfl)
          try simp only [Act.put, List.setIfInBounds_toArray, List.set_cons_zero, List.set_cons_succ]
          refine took 5 (v := ?_) rfl (by kernel_rfl) (by kernel_rfl) (by kernel_rfl) (by kernel_rfl) (fun _ _ _ h => h) (by rfl) (by assumption) ?_ ?_
          rotate_left
          · (intro W hSw; (try dsimp only at hSw); go_simp; first | done | with_reducible rfl)
          try simp only [Act.put, List.setIfInBounds_toArray, List.set_cons_zero, List.set_cons_succ]
          refine took 6 (v := ?_) rfl (by kernel_rfl) (by kernel_rfl) (by kernel_rfl) (by kernel_rfl) (fun _ _ _ h => h) (by rfl) (by assumption) ?_ ?_
          rotate_left
          · (intro W hSw; (try dsimp only at hSw); go_simp; first | done | with_reducible rfl)
          try simp only [Act.put, List.setIfInBounds_toArray, List.set_cons_zero, List.set_cons_succ]
          refine took 7 (v := ?_) rfl (by kernel_rfl) (by kernel_rfl) (by kernel_rfl) (by kernel_rfl) (fun _ _ _ h => h) (by rfl) (by assumption) ?_ ?_
          rotate_left
          · (intro W hSw; (try dsimp only at hSw); go_simp; first | done | with_reducible rfl)
          try simp only [Act.put, List.setIfInBounds_toArray, List.set_cons_zero, List.set_cons_succ]
          refine took 8 (v := ?_) rfl (by kernel_rfl) (by kernel_rfl) (by kernel_rfl) (by kernel_rfl) (fun _ _ _ h => h) (by rfl) (by assumption) ?_ ?_
          rotate_left
          · (intro W hSw; (try dsimp only at hSw); go_simp; first | done | with_reducible rfl)
          try simp only [Act.put, List.setIfInBounds_toArray, List.set_cons_zero, List.set_cons_succ]
          refine took 9 (v := ?_) rfl (by kernel_rfl) (by kernel_rfl) (by kernel_rfl) (by kernel_rfl) (fun _ _ _ h => h) (by rfl) (by assumption) ?_ ?_
          rotate_left
          · (intro W hSw; (try dsimp only at hSw); go_simp; first | done | with_reducible rfl)
          try simp only [Act.put, List.setIfInBounds_toArray, List.set_cons_zero, List.set_cons_succ]
          refine took 10 (v := ?_) rfl (by kernel_rfl) (by kernel_rfl) (by kernel_rfl) (by kernel_rfl) (fun _ _ _ h => h) (by rfl) (by assumption) ?_ ?_
          rotate_left
          · (intro W hSw; (try dsimp only at hSw); go_simp; first | done | with_reducible rfl)
          try simp only [Act.put, List.setIfInBounds_toArray, List.set_cons_zero, List.set_cons_succ]
          refine took 11 (v := ?_) rfl (by kernel_rfl) (by kernel_rfl) (by kernel_rfl) (by kernel_rfl) (fun _ _ _ h => h) (by rfl) (by assumption) ?_ ?_
          rotate_left
          · (intro W hSw; (try dsimp only at hSw); go_simp; first | done | with_reducible rfl)
          try simp only [Act.put, List.setIfInBounds_toArray, List.set_cons_zero, List.set_cons_succ]
          refine carried 12 rfl (by kernel_rfl) (by rfl) (fun K hK => ?_)
          go_simp
          (go_at_call 49; ((with_reducible refine KC.out.mono ?_); rintro e w8 ⟨Ac, cc, rfl, ho8, hB8⟩); have HB8 := Lib.hid (below_then hDd.out hB8); have HO8 := Lib.hid ho8; have HD8 := Lib.hid (HD7.out.below HB8.out); have R8 := Lib.hid (R7.out.below HB8.out R7.out.lt); have hb8 : base ≤ w8.heap.size := Nat.le_trans hb7 HB8.out.size; clear ho8 hB8)
          refine hK.out _ _ ((SB7.out _ HB8.out)) (fun hHeld => ?_)
          clear hK K
          try simp only [Act.put, List.setIfInBounds_toArray, List.set_cons_zero, List.set_cons_succ]
          refine carriedL 13 rfl (by kernel_rfl) (fun K hK => ?_)
          (refine step_append_any _ (by rfl) _ _ _ (by rfl) base 5 i0 (.int .u8 0) 1 1 Tryd.underlying27 hi.out hz0.out hz1.out hz2.out rfl (by omega) Ao no co _ (by rfl) HD8.out.oo w8.heap.size Ac M cc _ (by rfl) (Reads.of_own HO8.out) (row_one (Reads.of_own HO8.out)) hm1 hm2 hb8 ?_; intro A3 c3 w9 ho9 hg9 _hs9; have hb9 : Blk w9 g 65 _ := blk_grownR HD8.out.blk HD8.out.oo (by decide) hg9; have k9 := blk_grownE R8.out HD8.out.oo (by decide) hg9)
          refine hK.out _ _ (⟨k9.cell 0, hb9.cell 3, hb9.cell 0⟩) (fun hHeld => ?_)
          clear hK K
          try simp only [Act.put, List.setIfInBounds_toArray, List.set_cons_zero, List.set_cons_succ]
          have kf9 := hb9.frozen 3
          refine lately 14 rfl (by kernel_rfl) (by decide) (by rfl) (fun K hK => ?_)
          go_simp
          refine hK.out _ _ ?_
          clear hK K
          try simp only [Act.put, List.setIfInBounds_toArray, List.set_cons_zero, List.set_cons_succ]
          refine lately 15 rfl (by kernel_rfl) (by decide) (by rfl) (fun K hK => ?_)
          go_simp
          refine hK.out _ _ ?_
          clear hK K
          try simp only [Act.put, List.setIfInBounds_toArray, List.set_cons_zero, List.set_cons_succ]
          refine lately 16 rfl (by kernel_rfl) (by decide) (by rfl) (fun K hK => ?_)
          go_simp
          refine hK.out _ _ ?_
          clear hK K
          try simp only [Act.put, List.setIfInBounds_toArray, List.set_cons_zero, List.set_cons_succ]
          refine allDone (by kernel_rfl) ?_ _
          have hK8 : w8.heap[D]? = some (.deferred (some [])) := (HB8.out.block D (lt_of_heap hK7.out)).trans hK7.out
          have hK9 : w9.heap[D]? = some (.deferred (some [])) := (hg9.block D (lt_of_heap hK8) (fun e => by
            obtain ⟨cs', fr, hc⟩ := own_row HD8.out.oo D e.symm
            rw [hK8] at hc; cases hc)).trans hK8
          have hK10 : (w9.setCell ⟨g, 3, none⟩ (.slice A3 (no + M) c3)).heap[D]? = some (.deferred (some [])) := (Below.heap_setCell w9 ⟨g, 3, none⟩ _ D (fun e => by
            have hb' : w9.heap[g]? = some (.cells _ _ _) := hb9
            rw [show D = g from e, hb'] at hK9; cases hK9)).trans hK9
          have hB9 : Below base w w9 := below_app (HBw7.out.trans (HB8.out.mono hb7)) hg9 HD8.out.oo hb8
          have hB10 := Lib.hid (hB9.setCell (p := ⟨g, 3, none⟩) HD8.out.ge (.slice A3 (no + M) c3))
          have hRF : Rdr (w9.setCell ⟨g, 3, none⟩ (.slice A3 (no + M) c3)) base g k m ch A3 (no + M) c3 Ab nb cb (at_ + x) (out ++ Stp.csV k m cs) (bd ++ Stp.badL at_ GO) := by
            refine ⟨hb9.set_ 3 _, HD8.out.ge, ?_, own_rdr (own_grownT HD8.out.ob HD8.out.oo (by decide) hg9) hb9 (by decide) _⟩
            rw [List.map_append]
            exact own_rdr ho9 hb9 (by decide) _
          replace hK10 := Lib.hid hK10; replace hRF := Lib.hid hRF
          clear hHeld hS7 hK8 hK9 hB9 ho9 hg9 _hs9 hb9 k9 kf9 KC SB7
          go_wp2_with fail
          refine ⟨by simp, .inl ⟨_, _, rfl, run_takeDeferred hK10.out, ?_⟩⟩
          refine ⟨_, results_tmp rfl _ _ _, ?_⟩
          unfold StRet
          rw [hcs.out, hE0.out, hGO.out]
          have hKA : KeepAll (w9.setCell ⟨g, 3, none⟩ (.slice A3 (no + M) c3)) ((w9.setCell ⟨g, 3, none⟩ (.slice A3 (no + M) c3)).putObj D (.deferred none)) := KeepAll.of_grown (grownBy_putObj' _ D _) (fun r e => by cases e; exact ⟨_, hK10.out, rfl⟩)
          refine ⟨rfl, hB10.out.trans (belowK_b (w := w) HB.out _ D _ _ hDw hK10.out rfl rfl), fun _ => ⟨A3, no + M, c3, Ab, nb, cb, hnb, hKA.blk hRF.out.blk, hRF.out.ge, hKA.own hRF.out.oo, hKA.own hRF.out.ob⟩⟩
    · have e1 : (er == (0 : Int)) = false := by simp [he]
      have e2 : (er != (0 : Int)) = true := by simp [he]
      have hcE2 : Hid (Stp.csE k m cs = er) := by rw [Hid, hcE.out, if_neg he]
      clear hme hmv hcE hcV
      go_wp2_with fail
      refine region_E 18 (fun V => V.cell? ⟨w.heap.size, 0, none⟩ = some (.pointer (some ⟨g, 0, none⟩)) ∧ V.cell? ⟨g, 0, none⟩ = some (.int .i64 k) ∧ V.cell? ⟨g, 1, none⟩ = some (.int .i64 m) ∧ V.cell? ⟨w.heap.size + 1, 0, none⟩ = some (.slice A5 q c5) ∧ V.cell? ⟨w.heap.size + 1 + 1, 0, none⟩ = some (.slice A6 q c6)) (by kernel_rfl) hS0 (fun hHeld => ?_)
      refine took 0 (v := ?_) rfl (by kernel_rfl) (by kernel_rfl) (by kernel_rfl) (by kernel_rfl) (fun _ _ _ h => h) (by rfl) (by assumption) ?_ ?_
      rotate_left
      · (intro W hSw; (try dsimp only at hSw); go_simp; first | done | with_reducible rfl)
      try simp only [Act.put, List.setIfInBounds_toArray, List.set_cons_zero, List.set_cons_succ]
      refine took 1 (v := ?_) rfl (by kernel_rfl) (by kernel_rfl) (by kernel_rfl) (by kernel_rfl) (fun _ _ _ h => h) (by rfl) (by assumption) ?_ ?_
      rotate_left
      · (intro W hSw; (try dsimp only at hSw); go_simp; first | done | with_reducible rfl)
      try simp only [Act.put, List.setIfInBounds_toArray, List.set_cons_zero, List.set_cons_succ]
      refine took 2 (v := ?_) rfl (by kernel_rfl) (by kernel_rfl) (by kernel_rfl) (by kernel_rfl) (fun _ _ _ h => h) (by rfl) (by assumption) ?_ ?_
      rotate_left
      · (intro W hSw; (try dsimp only at hSw); go_simp; first | done | with_reducible rfl)
      try simp only [Act.put, List.setIfInBounds_toArray, List.set_cons_zero, List.set_cons_succ]
      refine took 3 (v := ?_) rfl (by kernel_rfl) (by kernel_rfl) (by kernel_rfl) (by kernel_rfl) (fun _ _ _ h => h) (by rfl) (by assumption) ?_ ?_
      rotate_left
      · (intro W hSw; (try dsimp only at hSw); go_simp; first | done | with_reducible rfl)
      try simp only [Act.put, List.setIfInBounds_toArray, List.set_cons_zero, List.set_cons_succ]
      refine took 4 (v := ?_) rfl (by kernel_rfl) (by kernel_rfl) (by kernel_rfl) (by kernel_rfl) (fun _ _ _ h => h) (by rfl) (by assumption) ?_ ?_
      rotate_left
      · (intro W hSw; (try dsimp only at hSw); go_simp; first | done | with_reducible rfl)
      try simp only [Act.put, List.setIfInBounds_toArray, List.set_cons_zero, List.set_cons_succ]
      refine took 5 (v := ?_) rfl (by kernel_rfl) (by kernel_rfl) (by kernel_rfl) (by kernel_rfl) (fun _ _ _ h => h) (by rfl) (by assumption) ?_ ?_
      rotate_left
      · (intro W hSw; (try dsimp only at hSw); go_simp; first | done | with_reducible rfl)
      try simp only [Act.put, List.setIfInBounds_toArray, List.set_cons_zero, List.set_cons_succ]
      refine took 6 (v := ?_) rfl (by kernel_rfl) (by kernel_rfl) (by kernel_rfl) (by kernel_rfl) (fun _ _ _ h => h) (by rfl) (by assumption) ?_ ?_
      rotate_left
      · (intro W hSw; (try dsimp only at hSw); go_simp; first | done | with_reducible rfl)
      try simp only [Act.put, List.setIfInBounds_toArray, List.set_cons_zero, List.set_cons_succ]
      refine took 7 (v := ?_) rfl (by kernel_rfl) (by kernel_rfl) (by kernel_rfl) (by kernel_rfl) (fun _ _ _ h => h) (by rfl) (by assumption) ?_ ?_
      rotate_left
      · (intro W hSw; (try dsimp only at hSw); go_simp; first | done | with_reducible rfl)
      try simp only [Act.put, List.setIfInBounds_toArray, List.set_cons_zero, List.set_cons_succ]
      refine took 8 (v := ?_) rfl (by kernel_rfl) (by kernel_rfl) (by kernel_rfl) (by kernel_rfl) (fun _ _ _ h => h) (by rfl) (by assumption) ?_ ?_
      rotate_left
      · (intro W hSw; (try dsimp only at hSw); go_simp; first | done | with_reducible rfl)
      try simp only [Act.put, List.setIfInBounds_toArray, List.set_cons_zero, List.set_cons_succ]
      refine took 9 (v := ?_) rfl (by kernel_rfl) (by kernel_rfl) (by kernel_rfl) (by kernel_rfl) (fun _ _ _ h => h) (by rfl) (by assumption) ?_ ?_
      rotate_left
      · (intro W hSw; (try dsimp only at hSw); go_simp; first | done | with_reducible rfl)
      try simp only [Act.put, List.setIfInBounds_toArray, List.set_cons_zero, List.set_cons_succ]
      refine took 10 (v := ?_) rfl (by kernel_rfl) (by kernel_rfl) (by kernel_rfl) (by kernel_rfl) (fun _ _ _ h => h) (by rfl) (by assumption) ?_ ?_
      rotate_left
      · (intro W hSw; (try dsimp only at hSw); go_simp; first | done | with_reducible rfl)
      try simp only [Act.put, List.setIfInBounds_toArray, List.set_cons_zero, List.set_cons_succ]
      refine took 11 (v := ?_) rfl (by kernel_rfl) (by kernel_rfl) (by kernel_rfl) (by kernel_rfl) (fun _ _ _ h => h) (by rfl) (by assumption) ?_ ?_
      rotate_left
      · (intro W hSw; (try dsimp only at hSw); go_simp; first | done | with_reducible rfl)
      try simp only [Act.put, List.setIfInBounds_toArray, List.set_cons_zero, List.set_cons_succ]
      refine carried 12 rfl (by kernel_rfl) (by rfl) (fun K hK => ?_)
      go_simp
      (go_at_call 47; ((with_reducible refine KM.out.mono ?_); rintro e w5 ⟨Ay, cy, rfl, hl5, hB5⟩); have HB5 := Lib.hid (below_then hD0.out hB5); clear hB5 hl5)
      refine hK.out _ _ ((SB.out _ HB5.out)) (fun hHeld => ?_)
      clear hK K
      try simp only [Act.put, List.setIfInBounds_toArray, List.set_cons_zero, List.set_cons_succ]
      refine took 13 (v := ?_) rfl (by kernel_rfl) (by kernel_rfl) (by kernel_rfl) (by kernel_rfl) (fun _ _ _ h => h) (by rfl) (by assumption) ?_ ?_
      rotate_left
      · (intro W hSw; (try dsimp only at hSw); go_simp; first | done | with_reducible rfl)
      try simp only [Act.put, List.setIfInBounds_toArray, List.set_cons_zero, List.set_cons_succ]
      refine took 14 (v := ?_) rfl (by kernel_rfl) (by kernel_rfl) (by kernel_rfl) (by kernel_rfl) (fun _ _ _ h => h) (by rfl) (by assumption) ?_ ?_
      rotate_left
      · (intro W hSw; (try dsimp only at hSw); go_simp; first | done | with_reducible rfl)
      try simp only [Act.put, List.setIfInBounds_toArray, List.set_cons_zero, List.set_cons_succ]
      refine took 15 (v := ?_) rfl (by kernel_rfl) (by kernel_rfl) (by kernel_rfl) (by kernel_rfl) (fun _ _ _ h => h) (by rfl) (by assumption) ?_ ?_
      rotate_left
      · (intro W hSw; (try dsimp only at hSw); go_simp; first | done | with_reducible rfl)
      try simp only [Act.put, List.setIfInBounds_toArray, List.set_cons_zero, List.set_cons_succ]
      refine took 16 (v := ?_) rfl (by kernel_rfl) (by kernel_rfl) (by kernel_rfl) (by kernel_rfl) (fun _ _ _ h => h) (by rfl) (by assumption) ?_ ?_
      rotate_left
      · (intro W hSw; (try dsimp only at hSw); go_simp; first | done | with_reducible rfl)
      try simp only [Act.put, List.setIfInBounds_toArray, List.set_cons_zero, List.set_cons_succ]
      refine took 17 (v := ?_) rfl (by kernel_rfl) (by kernel_rfl) (by kernel_rfl) (by kernel_rfl) (fun _ _ _ h => h) (by rfl) (by assumption) ?_ ?_
      rotate_left
      · (intro W hSw; (try dsimp only at hSw); go_simp; first | done | with_reducible rfl)
      try simp only [Act.put, List.setIfInBounds_toArray, List.set_cons_zero, List.set_cons_succ]
      refine allDone (by kernel_rfl) ?_ _
      clear hHeld SB hS0
      go_wp2_with fail
      have hB6 := HB5.out
      have hK6 : w5.heap[D]? = some (.deferred (some [])) := (hB6.block D hDlt).trans hK.out
      refine ⟨by simp, .inl ⟨_, _, rfl, run_takeDeferred hK6, ?_⟩⟩
      refine ⟨_, results_tmp rfl _ _ _, ?_⟩
      unfold StRet
      rw [hcs.out, hcE2.out]
      refine ⟨rfl, ?_, fun h => absurd h he⟩
      exact (hBw.out.trans (hB6.mono (Nat.le_trans HB.out (Nat.le_trans hDw (Nat.le_of_lt hDlt))))).trans (belowK_b (w := w) HB.out w5 D _ _ hDw hK6 rfl rfl)
  case stop =>
    rintro D c pre W _ _ h _
    exact h.elim
end Go.Proofs.YtjbedcgacnnanaaDoor

namespace Go.Proofs.YtjbedcgacnnanaaDoor
set_option linter.unusedSimpArgs false
set_option linter.unusedVariables false
open Go.RowKit

namespace Stp
variable {k m ch n S d L N T : Nat} {s : List UInt8}
theorem csE_zero (sh : Shp k m ch n S d L N T) (hs : s.length = T) {t : Nat} (ht : t < S) (h : csE k m (csAt k m ch s t) = 0) : Rsp.mendE k m (cutL (csAt k m ch s t)) (goodL (csAt k m ch s t)) = 0 := by
  by_cases hf : (Rsp.gd (goodL (csAt k m ch s t)) (k + m)).length < k
  · rw [csE_few sh hs ht hf] at h; exact absurd h (by decide)
  · exact (csE_more sh hs ht hf).1
theorem outTo_len (sh : Shp k m ch n S d L N T) (hs : s.length = T) : ∀ t, t ≤ S → (∀ x, x < t → csE k m (csAt k m ch s x) = 0) → (outTo k m ch s t).length = t * d
  | 0, _, _ => by simp [outTo]
  | t + 1, ht, h => by
    rw [outTo_step, List.length_append, outTo_len sh hs t (by omega) (fun x hx => h x (by omega)), csV_len sh hs (show t < S by omega) (csE_zero sh hs (by omega) (h t (by omega))), Nat.succ_mul]
theorem badTo_stripe (k m ch : Nat) (s : List UInt8) (t : Nat) : badTo (ch + 4) s ((t + 1) * (k + m)) = badTo (ch + 4) s (t * (k + m)) ++ badL (t * (k + m)) (goodL (csAt k m ch s t)) := by
  rw [Nat.succ_mul, badTo_add]
  congr 2
  unfold goodL csAt partsB
  rw [List.map_map]
  apply List.map_congr_left
  intro i hi
  show _ = goodB (chunkB _ _ _)
  rw [chunk_whole (q := k + m) rfl (List.mem_range.1 hi)]
end Stp
set_option maxRecDepth 100000 in
set_option maxHeartbeats 4000000 in
theorem read_no (k m ch n er : Int) (A : Option Addr) (T c : Nat) (w : World) (he : Stp.sizeE k m ch n = er) (h0 : er ≠ 0) :
    Calls Tryd.prog 15 #[.int .i64 k, .int .i64 m, .int .i64 ch, .int .i64 n, .slice A T c] w (RdRet w [] [] er) := by
  have KSz : Hid (Calls Tryd.prog 10 #[.int .i64 k, .int .i64 m, .int .i64 ch, .int .i64 n] w fun e w' => e = .returned (.tuple #[.int .i64 (Stp.sizeV k m ch n : Nat), .int .i64 er]) ∧ Below w.heap.size w w') := by
    have := size_any k m ch n w
    rw [he] at this
    exact this
  have e1 : (er == (0 : Int)) = false := by simp [h0]
  have e2 : (er != (0 : Int)) = true := by simp [h0]
  generalize Stp.sizeV k m ch n = v at *
  clear he
  go_enter Tryd.func15, Tryd.ntmps15
  go_wp2_with fail
  refine KSz.out.mono ?_; rintro e w1 ⟨rfl, hB1⟩
  replace hB1 := Lib.hid hB1
  go_wp2_with fail
  go_ret3
  exact RdRet.nil hB1.out
set_option maxRecDepth 100000 in
set_option maxHeartbeats 4000000 in
theorem refRead_no (k m ch n er : Int) (A : Option Addr) (T c : Nat) (w : World) (he : Stp.sizeE k m ch n = er) (h0 : er ≠ 0) :
    Calls Tryd.prog 16 #[.int .i64 k, .int .i64 m, .int .i64 ch, .int .i64 n, .slice A T c] w (RdRet w [] [] er) := by
  have KSz : Hid (Calls Tryd.prog 11 #[.int .i64 k, .int .i64 m, .int .i64 ch, .int .i64 n] w fun e w' => e = .returned (.tuple #[.int .i64 (Stp.sizeV k m ch n : Nat), .int .i64 er]) ∧ w = w') := by
    have := refSize_any k m ch n w
    rw [he] at this
    exact this
  have e1 : (er == (0 : Int)) = false := by simp [h0]
  have e2 : (er != (0 : Int)) = true := by simp [h0]
  generalize Stp.sizeV k m ch n = v at *
  clear he
  go_enter Tryd.func16, Tryd.ntmps16
  go_wp2_with fail
  refine KSz.out.mono ?_; rintro e w1 ⟨rfl, rfl⟩
  go_wp2_with fail
  go_ret3
  exact RdRet.nil (Below.refl _ _)
/-- bytes too few, or too many -/
def lenE (T l : Nat) : Int := if l < T then 1 else 2
set_option maxRecDepth 100000 in
set_option maxHeartbeats 4000000 in
theorem read_len (k m ch n : Int) (A : Option Addr) (l c T : Nat) (w : World) (he : Stp.sizeE k m ch n = 0) (hT : Stp.sizeV k m ch n = T) (h0 : l ≠ T) :
    Calls Tryd.prog 15 #[.int .i64 k, .int .i64 m, .int .i64 ch, .int .i64 n, .slice A l c] w (RdRet w [] [] (lenE T l)) := by
  have KSz : Hid (Calls Tryd.prog 10 #[.int .i64 k, .int .i64 m, .int .i64 ch, .int .i64 n] w fun e w' => e = .returned (.tuple #[.int .i64 (T : Nat), .int .i64 0]) ∧ Below w.heap.size w w') := by
    have := size_any k m ch n w
    rw [he, hT] at this
    exact this
  clear he hT
  unfold lenE
  by_cases hl : l < T
  · rw [if_pos hl]
    have h1 : (l : Int) < (T : Int) := by omega
    go_enter Tryd.func15, Tryd.ntmps15
    go_wp2_with fail
    refine KSz.out.mono ?_; rintro e w1 ⟨rfl, hB1⟩
    replace hB1 := Lib.hid hB1
    go_wp2_with fail
    go_ret3
    exact RdRet.nil hB1.out
  · rw [if_neg hl]
    have h1 : ¬ (l : Int) < (T : Int) := by omega
    have h2 : (T : Int) < (l : Int) := by omega
    go_enter Tryd.func15, Tryd.ntmps15
    go_wp2_with fail
    refine KSz.out.mono ?_; rintro e w1 ⟨rfl, hB1⟩
    replace hB1 := Lib.hid hB1
    go_wp2_with fail
    go_ret3
    exact RdRet.nil hB1.out
set_option maxRecDepth 100000 in
set_option maxHeartbeats 4000000 in
theorem refRead_len (k m ch n : Int) (A : Option Addr) (l c T : Nat) (w : World) (he : Stp.sizeE k m ch n = 0) (hT : Stp.sizeV k m ch n = T) (h0 : l ≠ T) :
    Calls Tryd.prog 16 #[.int .i64 k, .int .i64 m, .int .i64 ch, .int .i64 n, .slice A l c] w (RdRet w [] [] (lenE T l)) := by
  have KSz : Hid (Calls Tryd.prog 11 #[.int .i64 k, .int .i64 m, .int .i64 ch, .int .i64 n] w fun e w' => e = .returned (.tuple #[.int .i64 (T : Nat), .int .i64 0]) ∧ w = w') := by
    have := refSize_any k m ch n w
    rw [he, hT] at this
    exact this
  clear he hT
  unfold lenE
  by_cases hl : l < T
  · rw [if_pos hl]
    have h1 : (l : Int) < (T : Int) := by omega
    go_enter Tryd.func16, Tryd.ntmps16
    go_wp2_with fail
    refine KSz.out.mono ?_; rintro e w1 ⟨rfl, rfl⟩
    go_wp2_with fail
    go_ret3
    exact RdRet.nil (Below.refl _ _)
  · rw [if_neg hl]
    have h1 : ¬ (l : Int) < (T : Int) := by omega
    have h2 : (T : Int) < (l : Int) := by omega
    go_enter Tryd.func16, Tryd.ntmps16
    go_wp2_with fail
    refine KSz.out.mono ?_; rintro e w1 ⟨rfl, rfl⟩
    go_wp2_with fail
    go_ret3
    exact RdRet.nil (Below.refl _ _)
set_option maxRecDepth 100000 in
set_option maxHeartbeats 16000000 in
theorem read_in (k m ch n S d L N T : Nat) (A : Option Addr) (c : Nat) (s : List UInt8) (w : World) (sh : Shp k m ch n S d L N T) (ht : Tab w) (hr : Reads w w.heap.size 1 A T (s.map B8)) (hnc : T ≤ c) (hcm : c ≤ maxLen) :
    Calls Tryd.prog 15 #[.int .i64 k, .int .i64 m, .int .i64 ch, .int .i64 n, .slice A T c] w (RdRet w (Stp.rdV k m ch n S s) (Stp.rdB k m ch n S s) (Stp.rdE k m ch n S s)) := by
  have hok : Stp.ok k m ch n = true := Stp.ok_of sh.k1 sh.km sh.c1 sh.c2 sh.n2
  have hsz : Stp.size k m ch n = T := by unfold Stp.size; rw [sh.hT, sh.hS, sh.hL]
  have hse := Stp.sizeE_in hok (by rw [hsz]; exact sh.t2)
  have KSz : Hid (Calls Tryd.prog 10 #[.int .i64 k, .int .i64 m, .int .i64 ch, .int .i64 n] w fun e w' => e = .returned (.tuple #[.int .i64 (T : Nat), .int .i64 0]) ∧ Below w.heap.size w w') := by
    have := size_any k m ch n w
    rw [hse.1, hse.2, hsz] at this
    exact this
  have sl : Hid (s.length = T) := hr.len
  have KL : Hid (∀ W, Calls Tryd.prog 23 #[.agg #[.int .i64 k, .int .i64 m, .int .i64 ch]] W fun e w' => e = .returned (.int .i64 (L : Int)) ∧ Below W.heap.size W w') := fun W => by rw [sh.hL]; exact laid_any k m ch W sh.km sh.c2
  have d1 := sh.d1
  have d2 := sh.d2
  have N2 := sh.N2
  have nN := sh.nN
  have S2 := sh.S2
  have t2 := sh.t2
  have k1 := sh.k1
  have c1' := sh.c1
  have c2' := sh.c2
  obtain ⟨q, hq⟩ : ∃ q, k + m = q := ⟨_, rfl⟩
  have km : q ≤ 255 := by rw [← hq]; exact sh.km
  obtain ⟨ce, hce⟩ : ∃ ce, ch + 4 = ce := ⟨_, rfl⟩
  have hLq : L = q * ce := by rw [sh.hL, hq, hce]
  have hL1 : 1 ≤ L := by rw [hLq, ← hce]; exact Nat.mul_pos (by omega) (by omega)
  have SH := Lib.hid sh
  have HT := Lib.hid ht
  have RB := Lib.hid (fun W (hW : Below w.heap.size w W) => hr.below hW)
  have hTT1 : ¬ (T : Int) < (T : Int) := by omega
  replace hq := Lib.hid hq; replace hce := Lib.hid hce; replace hLq := Lib.hid hLq
  obtain ⟨i0, hi, hz0, hz1, hz2⟩ := info_parts info_u8
  replace hi := Lib.hid hi; replace hz0 := Lib.hid hz0; replace hz1 := Lib.hid hz1; replace hz2 := Lib.hid hz2
  clear sh hok hsz hse ht
  go_enter Tryd.func15, Tryd.ntmps15
  go_wp2_with fail
  refine KSz.out.mono ?_; rintro e w1 ⟨rfl, hB1⟩
  have hb := Blk.new w1 65 #[.int .i64 k, .int .i64 m, .int .i64 ch, .slice none 0 0, .slice none 0 0, .int .i64 0]
  have hB2 := below_then hB1 ((Below.refl w1.heap.size w1).alloc (Nat.le_refl _) (.cells #[.int .i64 k, .int .i64 m, .int .i64 ch, .slice none 0 0, .slice none 0 0, .int .i64 0] 65))
  have hge : w.heap.size ≤ w1.heap.size := hB1.size
  replace hb := Lib.hid hb; replace hB2 := Lib.hid hB2
  clear hB1
  go_wp2_with fail
  have hg : w.heap.size ≤ w1.heap.size := hge
  obtain ⟨W2, hW2⟩ : ∃ W2, w1.alloc (.cells #[.int .i64 k, .int .i64 m, .int .i64 ch, .slice none 0 0, .slice none 0 0, .int .i64 0] 65) = W2 := ⟨_, rfl⟩
  rw [hW2] at hb hB2 ⊢
  replace hW2 := Lib.hid hW2
  generalize w1.heap.size = g at *
  go_loopw [4] (fun v4 wr => ∃ (t R c4 no co nb cb : Nat) (A4 Ao Ab : Option Addr), v4 = .slice A4 R c4 ∧ t ≤ S ∧ R ≤ T ∧ R ≤ c4 ∧ c4 ≤ maxLen ∧ Hid (R + t * L = T) ∧ Hid (no = t * d) ∧ Hid (nb ≤ t * q) ∧ Hid (∀ x, x < t → Stp.csE k m (Stp.csAt k m ch s x) = 0) ∧ Hid (Reads wr w.heap.size 1 A4 R ((s.drop (t * L)).map B8)) ∧ Hid (Below w.heap.size w wr) ∧ Hid (Rdr wr w.heap.size g k m ch Ao no co Ab nb cb (t * q) (Stp.outTo k m ch s t) (Stp.badTo ce s (t * q)))) (fun v4 _ => lenOfS v4)
  case atStart =>
    refine ⟨0, T, c, 0, 0, 0, 0, A, none, none, rfl, Nat.zero_le _, Nat.le_refl _, hnc, hcm, by show T + 0 * L = T; rw [Nat.zero_mul]; rfl, by show 0 = 0 * d; rw [Nat.zero_mul], Nat.zero_le _, fun x hx => by omega, ?_, hB2, ?_⟩
    · rw [Nat.zero_mul, List.drop_zero]; exact RB.out _ hB2.out
    · rw [Nat.zero_mul]
      exact ⟨hb.out, hg, World.ownsRow_nil _ _ _ _, World.ownsRow_nil _ _ _ _⟩
  case round =>
    clear hb hB2
    obtain ⟨t, R, c4, no, co, nb, cb, A4, Ao, Ab, rfl, htS, hRT, hRc, hc4, HRN, HNO, HNB, HE, HRD, HB, HR⟩ := hrel
    by_cases hlt : t < S
    · have hLT := SH.out.LT hlt
      have hdN := SH.out.dN hlt
      have hLR : L ≤ R := by have := HRN.out; omega
      have hR0 : (0 : Int) < (R : Int) := by omega
      have hTQ : t * q + q ≤ 16777216 := by
        have h1 : (t + 1) * q ≤ (t + 1) * L := Nat.mul_le_mul_left _ (by rw [hLq.out]; exact Nat.le_mul_of_pos_right _ (by have := hce.out; omega))
        rw [Nat.succ_mul, Nat.succ_mul] at h1
        omega
      have hCS : Hid (Stp.partsB q ce ((s.drop (t * L)).take L) = Stp.csAt k m ch s t) := by
        rw [Hid]; unfold Stp.csAt; rw [hq.out, hce.out, ← hLq.out]
      have hFIRST := Lib.hid (fun hne => Stp.rdE_first (n := n) HE.out hne hlt)
      have hOUT := Lib.hid (Stp.outTo_step k m ch s t)
      have hBAD := Lib.hid (Stp.badTo_stripe k m ch s t)
      rw [hq.out, hce.out] at hBAD
      have hc := And.intro (HR.out.blk.cell 0) (And.intro (HR.out.blk.cell 1) (HR.out.blk.cell 2))
      have hLc : (L : Int) ≤ (c4 : Int) := by omega
      have hL0 : (0 : Int) ≤ (L : Int) := by omega
      have hszw : w.heap.size ≤ wr.heap.size := HB.out.size
      obtain ⟨q0, q1, q2⟩ := hc
      go_wp2_with fail
      refine (KL.out _).mono ?_; rintro e w2 ⟨rfl, hBl⟩
      have HB2 := Lib.hid (HB.out.trans (hBl.mono hszw))
      have HR2 := Lib.hid (HR.out.below hBl)
      have HD2 := Lib.hid (HRD.out.below (hBl.mono hszw))
      have KST := Lib.hid (stripe_in w.heap.size g k m ch q ce L no co nb cb (t * q) Ao Ab A4 c4 (Stp.outTo k m ch s t) ((s.drop (t * L)).take L) (Stp.badTo ce s (t * q)) w2 (HT.out.below HB2.out HT.out.pos) HT.out.pos HR2.out HB2.out.size (HD2.out.takeN hLR) (by omega) hc4 hq.out hce.out hLq.out k1 km c1' c2' (by omega) HNB.out (by rw [← SH.out.hd, HNO.out]; omega))
      unfold StRet at KST
      rw [hCS.out] at KST
      clear hBl HB HR HRD q0 q1 q2 hLT hdN
      go_wp2_with fail
      refine KST.out.mono ?_; rintro e w3 ⟨rfl, hB3, hrd⟩
      have HB3 := Lib.hid (HB2.out.trans hB3)
      have HD3 := Lib.hid (HD2.out.below hB3)
      replace hrd := Lib.hid hrd
      clear KST hB3 HB2 HD2 HR2
      obtain ⟨er, her⟩ : ∃ er, Stp.csE k m (Stp.csAt k m ch s t) = er := ⟨_, rfl⟩
      rw [her] at hFIRST hrd ⊢
      by_cases he : er = 0
      · subst he
        obtain ⟨Ao', no', co', Ab', nb', cb', hn', hR'⟩ := hrd.out rfl
        replace hR' := Lib.hid hR'
        have hd3 := And.intro (hR'.out.blk.cell 0) (And.intro (hR'.out.blk.cell 1) (hR'.out.blk.cell 2))
        obtain ⟨q0, q1, q2⟩ := hd3
        have hE1 : Hid (∀ x, x < t + 1 → Stp.csE k m (Stp.csAt k m ch s x) = 0) := fun x hx => by
          by_cases h : x < t
          · exact HE.out x h
          · obtain rfl : x = t := by omega
            exact her
        have hno' : Hid (no' = (t + 1) * d) := by
          have h1 := hR'.out.oo.1
          have h2 := Stp.outTo_len SH.out sl.out (t + 1) hlt hE1.out
          rw [← hOUT.out] at h1
          rw [Hid, ← h2]; simpa using h1.symm
        have hcut := run_cut_lo (P := Tryd.prog) 27 5 i0 1 Tryd.underlying27 hi.out hz1.out A4 R c4 L .i64 hLR
        replace her := Lib.hid her
        have hszw3 : w.heap.size ≤ w3.heap.size := HB3.out.size
        have hLR' : (L : Int) ≤ (R : Int) := by omega
        clear hrd hFIRST
        go_wp2_with fail
        refine (KL.out _).mono ?_; rintro e w4 ⟨rfl, hBl⟩
        have HB4 := Lib.hid (HB3.out.trans (hBl.mono hszw3))
        have HD4 := Lib.hid ((HD3.out.below (hBl.mono hszw3)).cutN hLR hRc)
        have HR4 := Lib.hid (hR'.out.below hBl)
        clear hBl HB3 HD3 hR' q0 q1 q2
        go_wp2_with fail
        go_roundw
        case rel =>
          refine ⟨t + 1, R - L, c4 - L, no', co', nb', cb', cutA A4 c4 L 1, Ao', Ab', rfl, by omega, by omega, by omega, by omega, ?_, hno', ?_, hE1, ?_, HB4, ?_⟩
          · show R - L + (t + 1) * L = T
            have := HRN.out
            rw [Nat.succ_mul]; omega
          · show nb' ≤ (t + 1) * q
            rw [Nat.succ_mul]; exact hn'
          · have h5 := HD4.out
            rw [List.drop_drop] at h5
            rw [Nat.succ_mul]; exact h5
          · rw [hOUT.out, hBAD.out, Nat.succ_mul]; exact HR4.out
        case measure => simp [lenOfS]; omega
      · have e1 : (er == (0 : Int)) = false := by simp [he]
        have e2 : (er != (0 : Int)) = true := by simp [he]
        have hF := Lib.hid (hFIRST.out he)
        clear hrd hFIRST her he
        go_wp2_with fail
        go_ret3
        rw [hF.out.1, hF.out.2.1, hF.out.2.2]
        exact RdRet.nil HB3.out
    · obtain rfl : t = S := by omega
      have hR0 : R = 0 := by have := HRN.out; have := SH.out.hT; omega
      subst hR0
      have hR1 : ¬ (0 : Int) < ((0 : Nat) : Int) := by omega
      have hnN : no = N := by rw [HNO.out, SH.out.hN]
      subst hnN
      have hGOOD := Lib.hid (fun h => Stp.rdE_good (n := n) HE.out h)
      have hBEH := Lib.hid (fun h => Stp.rdE_behind (n := n) HE.out h)
      rw [hq.out, hce.out] at hGOOD
      obtain ⟨W3, hW3⟩ : ∃ W3, W3 = wr := ⟨_, rfl⟩
      subst hW3
      obtain ⟨O, hO⟩ : ∃ O, Stp.outTo k m ch s t = O := ⟨_, rfl⟩
      rw [hO] at HR hGOOD hBEH
      obtain ⟨BD, hBD⟩ : ∃ BD, Stp.badTo ce s (t * q) = BD := ⟨_, rfl⟩
      rw [hBD] at HR hGOOD
      have OL : Hid (O.length = no) := by have := HR.out.oo.1; rw [Hid]; simpa using this
      have DL : Hid (BD.length = nb) := by have := HR.out.ob.1; rw [Hid]; simpa using this
      have hcap := own_cap HR.out.oo
      have hcut := run_cut_lo (P := Tryd.prog) 27 5 i0 1 Tryd.underlying27 hi.out hz1.out Ao no co n .i64 nN
      have RO : Hid (Reads W3 W3.heap.size 1 (cutA Ao co n 1) (no - n) ((O.drop n).map B8)) := (Reads.of_own HR.out.oo).cutN nN hcap.1
      have c3 := HR.out.blk.cell 3
      have hn0 : (0 : Int) ≤ (n : Int) := by omega
      have hnN' : (n : Int) ≤ (no : Int) := by omega
      replace hO := Lib.hid hO; replace hBD := Lib.hid hBD
      obtain ⟨nr, hnr⟩ : ∃ nr, no - n = nr := ⟨_, rfl⟩
      rw [hnr] at hcut RO
      have hNR : n + nr = no := by omega
      replace hnr := Lib.hid hnr
      clear HE HRD
      go_wp2_with fail
      go_loopw [76] (fun v76 wr => ∃ (x : Nat), v76 = .int .i64 (x : Nat) ∧ x ≤ nr ∧ Hid (∀ y, y < x → O[n + y]? = some 0) ∧ W3 = wr) (fun v76 _ => nr - (intOf v76).toNat)
      case atStart => exact ⟨0, rfl, Nat.zero_le _, fun y h1 => by omega, rfl⟩
      case round =>
        obtain ⟨x, rfl, hxM, HX, rfl⟩ := hrel
        by_cases hlt3 : x < nr
        · have hlt3' : (x : Int) < (nr : Int) := by omega
          have hx0 : (0 : Int) ≤ (x : Int) := by omega
          obtain ⟨ad, z, hAd, -, hz, hcell⟩ := RO.out.byte hlt3
          rw [List.getElem?_drop] at hz
          by_cases hzz : z = 0
          · have hz8 : ((z.toNat : Int) == 0) = true := by rw [hzz]; rfl
            have hz9 : ((z.toNat : Int) != 0) = false := by rw [hzz]; rfl
            have hz10 : (z.toNat : Int) = 0 := by rw [hzz]; rfl
            have hz11 : z.toNat = 0 := by rw [hzz]; rfl
            replace hzz := Lib.hid hzz
            replace hz := Lib.hid hz
            go_wp2_with fail
            go_roundw
            case rel =>
              refine ⟨x + 1, by go_num, by omega, fun y h1 => ?_, trivial⟩
              by_cases h : y < x
              · exact HX.out y h
              · obtain rfl : y = x := by omega
                rw [hz.out, hzz.out]
            case measure => simp [intOf]; omega
          · have hz10 : ¬ (z.toNat : Int) = 0 := fun h => hzz (UInt8.toNat_inj.1 (by have h0 : (0 : UInt8).toNat = 0 := rfl; omega))
            have hz11 : ¬ z.toNat = 0 := by omega
            have hz8 : ((z.toNat : Int) == 0) = false := by simp [hz11]
            have hz9 : ((z.toNat : Int) != 0) = true := by simp [hz11]
            have hF := Lib.hid (hBEH.out (Stp.behind_yes hz (Nat.le_add_right _ _) hzz))
            clear hz hzz
            go_wp2_with fail
            go_ret3
            rw [hF.out.1, hF.out.2.1, hF.out.2.2]
            exact RdRet.nil HB.out
        · have hge3 : ¬ (x : Int) < (nr : Int) := by omega
          have hF := hGOOD.out (Stp.behind_no fun y h1 h2 => by
            have h3 := HX.out (y - n) (by have := OL.out; omega)
            rwa [show n + (y - n) = y by omega] at h3)
          replace hF := Lib.hid hF
          have hDd : Below W3.heap.size W3 W3.drew := (Below.refl _ _).drew
          have SB : Hid (∀ V, Below W3.heap.size W3 V → V.cell? ⟨g, 3, none⟩ = some (.slice Ao no co) ∧ V.cell? ⟨g, 4, none⟩ = some (.slice Ab nb cb)) := fun V hV => ⟨(HR.out.blk.below hV HR.out.blk.lt).cell 3, (HR.out.blk.below hV HR.out.blk.lt).cell 4⟩
          have hS0 := SB.out _ hDd
          have hl1 : Hid ((O.take n).length = n) := by rw [Hid, List.length_take, OL.out]; omega
          have KC := Lib.hid (clone_any Ao n co W3.drew.heap.size (O.take n) W3.drew (((Reads.of_own HR.out.oo).below hDd).takeN nN) (Nat.le_refl _) (by omega))
          unfold SlRet at KC
          have hnc5 : (n : Int) ≤ (co : Int) := by omega
          replace hDd := Lib.hid hDd
          clear c3 hcut HX
          go_wp2_with fail
          refine region_E 14 (fun V => V.cell? ⟨g, 3, none⟩ = some (.slice Ao no co) ∧ V.cell? ⟨g, 4, none⟩ = some (.slice Ab nb cb)) (by kernel_rfl) hS0 (fun hHeld => ?_)
          refine took 0 (v := ?_) rfl (by kernel_rfl) (by kernel_rfl) (by kernel_rfl) (by kernel_rfl) (fun _ _ _ h => h) (by rfl) (by assumption) ?_ ?_
          rotate_left
          · (intro W hSw; (try dsimp only at hSw); go_simp; first | done | with_reducible rfl)
          try simp only [Act.put, List.setIfInBounds_toArray, List.set_cons_zero, List.set_cons_succ]
          refine took 1 (v := ?_) rfl (by kernel_rfl) (by kernel_rfl) (by kernel_rfl) (by kernel_rfl) (fun _ _ _ h => h) (by rfl) (by assumption) ?_ ?_
          rotate_left
          · (intro W hSw; (try dsimp only at hSw); go_simp; first | done | with_reducible rfl)
          try simp only [Act.put, List.setIfInBounds_toArray, List.set_cons_zero, List.set_cons_succ]
          refine took 2 (v := ?_) rfl (by kernel_rfl) (by kernel_rfl) (by kernel_rfl) (by kernel_rfl) (fun _ _ _ h => h) (by rfl) (by assumption) ?_ ?_
          rotate_left
          · (intro W hSw; (try dsimp only at hSw); go_simp; first | done | with_reducible rfl)
          try simp only [Act.put, List.setIfInBounds_toArray, List.set_cons_zero, List.set_cons_succ]
          refine took 3 (v := ?_) rfl (by kernel_rfl) (by kernel_rfl) (by kernel_rfl) (by kernel_rfl) (fun _ _ _ h => h) (by rfl) (by assumption) ?_ ?_
          rotate_left
          · (intro W hSw; (try dsimp only at hSw); go_simp; first | done | with_reducible rfl)
          try simp only [Act.put, List.setIfInBounds_toArray, List.set_cons_zero, List.set_cons_succ]
          refine took 4 (v := ?_) rfl (by kernel_rfl) (by kernel_rfl) (by kernel_rfl) (by kernel_rfl) (fun _ _ _ h => h) (by rfl) (by assumption) ?_ ?_
          rotate_left
          · (intro W hSw; (try dsimp only at hSw); go_simp; first | done | with_reducible rfl)
          try simp only [Act.put, List.setIfInBounds_toArray, List.set_cons_zero, List.set_cons_succ]
          refine took 5 (v := ?_) rfl (by kernel_rfl) (by kernel_rfl) (by kernel_rfl) (by kernel_rfl) (fun _ _ _ h => h) (by rfl) (by assumption) ?_ ?_
          rotate_left
          · (intro W hSw; (try dsimp only at hSw); go_simp; first | done | with_reducible rfl)
          try simp only [Act.put, List.setIfInBounds_toArray, List.set_cons_zero, List.set_cons_succ]
          refine took 7 (v := ?_) rfl (by kernel_rfl) (by kernel_rfl) (by kernel_rfl) (by kernel_rfl) (fun _ _ _ h => h) (by rfl) (by assumption) ?_ ?_
          rotate_left
          · (intro W hSw; (try dsimp only at hSw); go_simp; first | done | with_reducible rfl)
          try simp only [Act.put, List.setIfInBounds_toArray, List.set_cons_zero, List.set_cons_succ]
          refine took 8 (v := ?_) rfl (by kernel_rfl) (by kernel_rfl) (by kernel_rfl) (by kernel_rfl) (fun _ _ _ h => h) (by rfl) (by assumption) ?_ ?_
          rotate_left
          · (intro W hSw; (try dsimp only at hSw); go_simp; first | done | with_reducible rfl)
          try simp only [Act.put, List.setIfInBounds_toArray, List.set_cons_zero, List.set_cons_succ]
          refine took 9 (v := ?_) rfl (by kernel_rfl) (by kernel_rfl) (by kernel_rfl) (by kernel_rfl) (fun _ _ _ h => h) (by rfl) (by assumption) ?_ ?_
          rotate_left
          · (intro W hSw; (try dsimp only at hSw); go_simp; first | done | with_reducible rfl)
          try simp only [Act.put, List.setIfInBounds_toArray, List.set_cons_zero, List.set_cons_succ]
          refine took 10 (v := ?_) rfl (by kernel_rfl) (by kernel_rfl) (by kernel_rfl) (by kernel_rfl) (fun _ _ _ h => h) (by rfl) (by assumption) ?_ ?_
          rotate_left
          · (intro W hSw; (try dsimp only at hSw); go_simp; first | done | with_reducible rfl)
          try simp only [Act.put, List.setIfInBounds_toArray, List.set_cons_zero, List.set_cons_succ]
          refine carried 6 rfl (by kernel_rfl) (by rfl) (fun K hK => ?_)
          go_simp
          (go_at_call 32; ((with_reducible refine KC.out.mono ?_); rintro e w8 ⟨Ac, cc, rfl, hf8⟩); have HB8 := Lib.hid (below_then hDd.out hf8.2); have HC8 := Lib.hid hf8.reads; clear hf8)
          refine hK.out _ _ ((SB.out _ HB8.out)) (fun hHeld => ?_)
          clear hK K
          try simp only [Act.put, List.setIfInBounds_toArray, List.set_cons_zero, List.set_cons_succ]
          refine took 11 (v := ?_) rfl (by kernel_rfl) (by kernel_rfl) (by kernel_rfl) (by kernel_rfl) (fun _ _ _ h => h) (by rfl) (by assumption) ?_ ?_
          rotate_left
          · (intro W hSw; (try dsimp only at hSw); go_simp; first | done | with_reducible rfl)
          try simp only [Act.put, List.setIfInBounds_toArray, List.set_cons_zero, List.set_cons_succ]
          refine took 12 (v := ?_) rfl (by kernel_rfl) (by kernel_rfl) (by kernel_rfl) (by kernel_rfl) (fun _ _ _ h => h) (by rfl) (by assumption) ?_ ?_
          rotate_left
          · (intro W hSw; (try dsimp only at hSw); go_simp; first | done | with_reducible rfl)
          try simp only [Act.put, List.setIfInBounds_toArray, List.set_cons_zero, List.set_cons_succ]
          refine took 13 (v := ?_) rfl (by kernel_rfl) (by kernel_rfl) (by kernel_rfl) (by kernel_rfl) (fun _ _ _ h => h) (by rfl) (by assumption) ?_ ?_
          rotate_left
          · (intro W hSw; (try dsimp only at hSw); go_simp; first | done | with_reducible rfl)
          try simp only [Act.put, List.setIfInBounds_toArray, List.set_cons_zero, List.set_cons_succ]
          refine allDone (by kernel_rfl) ?_ _
          have HO8 := Lib.hid (Reads.of_own (own_belowL HR.out.ob HB8.out))
          have HBw8 := Lib.hid (HB.out.trans (HB8.out.mono HB.out.size))
          clear hHeld SB hS0 KC
          go_wp2_with fail
          go_ret3
          rw [hF.out.1, hF.out.2.1, hF.out.2.2]
          refine ⟨Ac, cc, Ab, cb, by rw [hl1.out, DL.out]; rfl, ?_, ?_, HBw8.out⟩
          · rw [hl1.out]; exact HC8.out
          · rw [DL.out]; exact HO8.out
end Go.Proofs.YtjbedcgacnnanaaDoor
