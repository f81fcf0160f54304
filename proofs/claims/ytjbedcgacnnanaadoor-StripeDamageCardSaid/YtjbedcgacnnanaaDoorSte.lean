/-
  Lay, walked.
-/
import Derived.Test.YtjbedcgacnnanaaDoorStd
namespace Go.Proofs.YtjbedcgacnnanaaDoor
set_option linter.unusedSimpArgs false
set_option linter.unusedVariables false
open Go.RowKit

theorem wpList_copy_head {P : Program} {w : World} {ops : Array Oper} {rest : List Oper} {o : Oper} {a : Act} {Q : Exit → Act → World → Prop} (hgd : o.guard = none) (d s : Operand) (dT sT : TypeId)
    (ho : o.op = .call { callee := .builtin .copy, args := #[d, s], argTypes := #[dT, sT] }) (elem : TypeId) (hu : P.underlying dT = some (.slice elem)) (hsz : (P.info? elem).map (·.size) = some 1)
    (A : Option Addr) (N c base : Nat) (xs : List Value) (hd : a.eval d = .slice A N c) (hown : w.ownsRow base elem 1 (.slice A N c) N xs)
    (sp : Option Addr) (n sc : Nat) (hn : n ≤ N) (hs : a.eval s = .slice sp n sc) (B : Nat) (news : List Value) (hr : Reads w B 1 sp n news) (h1 : ∀ u ∈ news, u.oneCell' = true)
    (h : ∀ w', w'.ownsRow base elem 1 (.slice A N c) N (news ++ xs.drop n) → w.grownBy w' (A.map (·.block)) → wpList P ops Q rest (a.put o.dst (goInt n)) w') :
    wpList P ops Q (o :: rest) a w := by
  have hnl : news.length = n := by have := hr.1; omega
  have hmin : Nat.min n N = n := Nat.min_eq_left hn
  by_cases h0 : n = 0
  · subst h0
    obtain rfl : news = [] := List.eq_nil_of_length_eq_zero hnl
    refine wpList_copy_nothing hgd d s dT sT ho elem hu hsz _ _ _ _ _ _ hd hs (by simp) ?_
    exact h w (by simpa using hown) (grown_refl w _)
  · obtain ⟨ad, rfl, _, hcell⟩ := hr.2 (by omega)
    rcases hown.2 with ⟨_, hn0⟩ | ⟨g, cap, cur, hv, hbg, hg, hnc, hcm, hcur, htk⟩
    · omega
    · injection hv with hA _ hcap
      subst hcap
      subst hA
      rw [Nat.mul_one] at hcur htk
      have hlen : cur.toList.length = c := by rw [Array.length_toList]; exact hcur
      refine wpList_copy_own hgd d s dT sT ho elem hu hsz g 0 _ c ad _ sc hd hs cur elem hg news (by rw [hnl]; exact hmin.symm) hcell (by rw [hnl]; omega) h1 ?_
      rw [hnl]
      refine h _ ⟨?_, Or.inr ⟨g, c, _, rfl, hbg, setRow_heap w g cur _ elem (0, 0) hg, hnc, hcm, ?_, ?_⟩⟩ (grown_setRow w g _)
      · have hl := hown.1
        rw [List.length_append, List.length_drop]; omega
      · simp only [List.size_toArray, List.length_append, List.length_take, List.length_drop, Nat.mul_one]
        omega
      · rw [Nat.mul_one]
        show (cur.toList.take 0 ++ (news ++ cur.toList.drop (0 + n))).take N = _
        rw [← htk, List.take_zero, List.nil_append, Nat.zero_add, List.take_append, hnl, List.take_of_length_le (by omega), List.drop_take]
theorem u8_size1 : (Tryd.prog.info? 5).map (·.size) = some 1 := by kernel_rfl
theorem Stp.num_lt {d n : Nat} (hd : 1 ≤ d) : Stp.num d n * d ≤ n + d := by
  unfold Stp.num
  have := Nat.div_mul_le_self (n + d - 1) d
  omega
theorem Aside.trans {W8 W W' : World} {g : Nat} {A A' : Option Addr} (h1 : Aside W8 W g A) (h2 : Aside W W' g A') : Aside W8 W' g A' :=
  ⟨Nat.le_trans h1.size h2.size, fun k hk hne => (h2.heap k (Nat.lt_of_lt_of_le hk h1.size) hne).trans (h1.heap k hk hne), fun k hk => (h2.row k hk).imp id fun h => Nat.le_trans h1.size h⟩
theorem Aside.grow {W8 W w4 : World} {g7 : Nat} {A A3 : Option Addr} (h : Aside W8 W g7 A) (hg : W.grownBy w4 (A.map (·.block))) (hs : Stays W A A3) : Aside W8 w4 g7 A3 := by
  refine ⟨Nat.le_trans h.size hg.size, fun g hlt hne => (hg.block g (Nat.lt_of_lt_of_le hlt h.size) (fun e => ?_)).trans (h.heap g hlt hne), fun g hgA => ?_⟩
  · rcases h.row g e.symm with h0 | h0
    · exact hne h0
    · omega
  · rcases hs with h0 | h0
    · exact h.row g (h0 ▸ hgA)
    · rw [h0] at hgA
      injection hgA with hgA
      exact .inr (hgA ▸ h.size)
theorem Aside.here {W : World} {g : Nat} {A : Option Addr} (h : ∀ k, A.map (·.block) = some k → k = g ∨ W.heap.size ≤ k) : Aside W W g A := ⟨Nat.le_refl _, fun _ _ _ => rfl, h⟩
theorem Aside.trans2 {W8 W W' : World} {g g2 : Nat} {A A' : Option Addr} (h1 : Aside W8 W g A) (h2 : Aside W W' g2 A') (hg : g2 = g ∨ W8.heap.size ≤ g2) : Aside W8 W' g A' :=
  ⟨Nat.le_trans h1.size h2.size, fun k hk hne => (h2.heap k (Nat.lt_of_lt_of_le hk h1.size) (by omega)).trans (h1.heap k hk hne), fun k hk => (h2.row k hk).elim (fun e => by omega) fun h => .inr (Nat.le_trans h1.size h)⟩
theorem Aside.cell {W8 W : World} {g : Nat} {A : Option Addr} (h : Aside W8 W g A) {p : Addr} (hp : p.block < g) (hg : g ≤ W8.heap.size) : W.cell? p = W8.cell? p := World.cell?_of_block (h.heap _ (by omega) (by omega))
/-- the block of a row, g where it has none -/
def blkOf (A : Option Addr) (g : Nat) : Nat := (A.map (·.block)).getD g
theorem blkOf_spec {A : Option Addr} {g k : Nat} (h : A.map (·.block) = some k) : k = blkOf A g := by unfold blkOf; rw [h]; rfl
theorem blkOf_or (A : Option Addr) (g : Nat) : blkOf A g = g ∨ A.map (·.block) = some (blkOf A g) := by
  unfold blkOf
  cases h : A.map (·.block) with
  | none => exact .inl rfl
  | some k => exact .inr rfl
def lenOfS : Value → Nat
  | .slice _ n _ => n
  | _ => 0
/-- what is known of a stripe's shape -/
structure Shp (k m ch n S d L N T : Nat) : Prop where
  k1 : 1 ≤ k
  km : k + m ≤ 255
  c1 : 1 ≤ ch
  c2 : ch ≤ 4096
  n2 : n ≤ 8388608
  hS : S = Stp.num (k * ch) n
  hd : d = k * ch
  hL : L = (k + m) * (ch + 4)
  hN : N = S * d
  hT : T = S * L
  t2 : T ≤ 16777216
section
variable {k m ch n S d L N T : Nat} (h : Shp k m ch n S d L N T)
include h
theorem Shp.d1 : 1 ≤ d := by rw [h.hd]; exact Stp.data_pos h.k1 h.c1
theorem Shp.d2 : d ≤ 1044480 := by rw [h.hd]; exact Stp.data_le (by have := h.km; omega) h.c2
theorem Shp.S2 : S ≤ 8388608 := by rw [h.hS]; exact Nat.le_trans (Stp.num_le (Stp.data_pos h.k1 h.c1)) h.n2
theorem Shp.nN : n ≤ N := by rw [h.hN, h.hS, h.hd]; exact Stp.num_ge (Stp.data_pos h.k1 h.c1)
theorem Shp.N2 : N ≤ 9433088 := by
  have h1 := Stp.num_lt (n := n) (Stp.data_pos h.k1 h.c1)
  have h2 := h.d2
  rw [h.hN, h.hS, h.hd]; rw [h.hd] at h2
  have := h.n2; omega
theorem Shp.L2 : L ≤ 1045500 := by rw [h.hL]; exact Stp.laid_le h.km h.c2
theorem Shp.dN {t : Nat} (ht : t < S) : t * d + d ≤ N := by rw [h.hN, ← Nat.succ_mul]; exact Nat.mul_le_mul_right _ ht
theorem Shp.LT {t : Nat} (ht : t < S) : t * L + L ≤ T := by rw [h.hT, ← Nat.succ_mul]; exact Nat.mul_le_mul_right _ ht
end
theorem pad_eq {d n : Nat} {b : List UInt8} (hb : b.length = n) : (b.map B8 ++ (List.replicate (Stp.num d n * d) (Value.int .u8 0)).drop n) = (Stp.padB d b).map B8 := by
  unfold Stp.padB
  rw [List.map_append, List.map_replicate, hb, List.drop_replicate]; rfl

set_option maxRecDepth 100000 in
set_option maxHeartbeats 8000000 in
theorem lay_in (k m ch n S d L N T : Nat) (A : Option Addr) (c : Nat) (bs : List UInt8) (w : World) (sh : Shp k m ch n S d L N T) (ht : Tab w) (hr : Reads w w.heap.size 1 A n (bs.map B8)) (hnc : n ≤ c) (hcm : c ≤ maxLen) :
    Calls Tryd.prog 12 #[.int .i64 k, .int .i64 m, .int .i64 ch, .slice A n c] w (SlErrN 5 w T (Stp.layV k m ch bs) 0) := by
  have hok : Stp.ok k m ch n = true := Stp.ok_of sh.k1 sh.km sh.c1 sh.c2 sh.n2
  have hsz : Stp.size k m ch n = T := by unfold Stp.size; rw [sh.hT, sh.hS, sh.hL]
  have hse := Stp.sizeE_in hok (by rw [hsz]; exact sh.t2)
  have KSz : Hid (Calls Tryd.prog 10 #[.int .i64 k, .int .i64 m, .int .i64 ch, .int .i64 n] w (NumErr w T 0)) := by
    have := size_any k m ch n w
    rw [hse.1, hse.2, hsz] at this
    exact this
  unfold NumErr at KSz
  have KN : Hid (∀ W, Calls Tryd.prog 22 #[.agg #[.int .i64 k, .int .i64 m, .int .i64 ch], .int .i64 n] W fun e w' => e = .returned (.int .i64 (S : Int)) ∧ Below W.heap.size W w') := fun W => by rw [sh.hS]; exact stripes_any k m ch n W (by have := sh.km; omega) sh.c2 sh.k1 sh.c1 sh.n2
  have KD : Hid (∀ W, Calls Tryd.prog 25 #[.agg #[.int .i64 k, .int .i64 m, .int .i64 ch]] W fun e w' => e = .returned (.int .i64 (d : Int)) ∧ Below W.heap.size W w') := fun W => by rw [sh.hd]; exact data_any k m ch W (by have := sh.km; omega) sh.c2
  have d1 := sh.d1
  have d2 := sh.d2
  have N2 := sh.N2
  have nN := sh.nN
  have S2 := sh.S2
  have t2 := sh.t2
  have SH := Lib.hid sh
  have hmul : IntKind.i64.wrap ((S : Int) * (d : Int)) = (N : Int) := by rw [← Int.natCast_mul, ← sh.hN, IntKind.wrap_i64]; omega
  have TB := Lib.hid (fun W (hW : Below w.heap.size w W) => ht.below hW ht.pos)
  have RB := Lib.hid (fun W (hW : Below w.heap.size w W) => hr.below hW)
  have BL : Hid (bs.length = n) := hr.len
  have PADE : Hid (bs.map B8 ++ ((madeCells (Value.int .u8 0).cells N).toList).drop n = (Stp.padB d bs).map B8) := by
    show bs.map B8 ++ ((madeCells #[Value.int .u8 0] N).toList).drop n = _
    rw [toList_madeCells_one, sh.hN, sh.hS, sh.hd]
    exact pad_eq hr.len
  obtain ⟨i0, hi, hz0, hz1, hz2⟩ := info_parts info_u8
  replace hi := Lib.hid hi; replace hz0 := Lib.hid hz0; replace hz1 := Lib.hid hz1; replace hz2 := Lib.hid hz2
  clear sh ht hr hok hsz hse
  obtain ⟨i1, hi1, hy0, hy1, hy2⟩ := info_parts info_row8
  replace hi1 := Lib.hid hi1; replace hy0 := Lib.hid hy0; replace hy1 := Lib.hid hy1; replace hy2 := Lib.hid hy2
  go_enter Tryd.func12, Tryd.ntmps12
  go_wp2_with fail
  refine KSz.out.mono ?_; rintro e w1 ⟨rfl, hB1⟩
  replace hB1 := Lib.hid hB1
  go_wp2_with fail
  have hb := Blk.new w1 50 #[.int .i64 k, .int .i64 m, .int .i64 ch]
  have hB2 := Lib.hid (below_then hB1.out (box_below w1 (.int .i64 k) (.int .i64 m) (.int .i64 ch)))
  have hg12 : w.heap.size ≤ w1.heap.size := hB1.out.size
  generalize w1.alloc (.cells #[.int .i64 k, .int .i64 m, .int .i64 ch] 50) = w2 at *
  generalize w1.heap.size = gs at *
  have SB : Hid (∀ W, Below w2.heap.size w2 W → W.cell? ⟨gs, 0, none⟩ = some (.int .i64 k) ∧ W.cell? ⟨gs, 1, none⟩ = some (.int .i64 m) ∧ W.cell? ⟨gs, 2, none⟩ = some (.int .i64 ch)) := fun W hW => ⟨(hb.below hW hb.lt).cell 0, (hb.below hW hb.lt).cell 1, (hb.below hW hb.lt).cell 2⟩
  have hglt := hb.lt
  clear hb hB1 KSz
  have hc := SB.out w2 (Below.refl _ _)
  refine region_E 9 (fun W => W.cell? ⟨gs, 0, none⟩ = some (.int .i64 k) ∧ W.cell? ⟨gs, 1, none⟩ = some (.int .i64 m) ∧ W.cell? ⟨gs, 2, none⟩ = some (.int .i64 ch)) (by kernel_rfl) (SB.out _ (Below.refl _ _).drew) (fun hHeld => ?_)
  refine took 0 (v := ?_) rfl (by kernel_rfl) (by kernel_rfl) (by kernel_rfl) (by kernel_rfl) (fun _ _ _ h => h) (by rfl) (by assumption) ?_ ?_
  rotate_left
  · (intro W hSw; (try dsimp only at hSw); go_simp; first | done | with_reducible rfl)
  try simp only [Act.put, List.setIfInBounds_toArray, List.set_cons_zero, List.set_cons_succ]
  refine took 1 (v := ?_) rfl (by kernel_rfl) (by kernel_rfl) (by kernel_rfl) (by kernel_rfl) (fun _ _ _ h => h) (by rfl) (by assumption) ?_ ?_
  rotate_left
  · (intro W hSw; (try dsimp only at hSw); go_simp; first | done | with_reducible rfl)
  try simp only [Act.put, List.setIfInBounds_toArray, List.set_cons_zero, List.set_cons_succ]
  refine took 2 (v := ?_) rfl (by kernel_rfl) (by kernel_rfl) (by kernel_rfl) (by kernel_rfl) (fun _ _ _ h => h) (by rfl) (by assumption) ?_ ?_
  rotate_left
  · (intro W hSw; (try dsimp only at hSw); go_simp; first | done | with_reducible rfl)
  try simp only [Act.put, List.setIfInBounds_toArray, List.set_cons_zero, List.set_cons_succ]
  refine took 4 (v := ?_) rfl (by kernel_rfl) (by kernel_rfl) (by kernel_rfl) (by kernel_rfl) (fun _ _ _ h => h) (by rfl) (by assumption) ?_ ?_
  rotate_left
  · (intro W hSw; (try dsimp only at hSw); go_simp; first | done | with_reducible rfl)
  try simp only [Act.put, List.setIfInBounds_toArray, List.set_cons_zero, List.set_cons_succ]
  refine carried 3 rfl (by kernel_rfl) (by rfl) (fun K hK => ?_)
  go_simp
  (go_at_call 22; ((with_reducible refine (KN.out _).mono ?_); rintro e w3 ⟨rfl, hB3⟩); have HB3 := Lib.hid (below_then (Below.refl _ w2).drew hB3); clear hB3)
  refine hK.out _ _ ((SB.out _ HB3.out)) (fun hHeld => ?_)
  clear hK K
  try simp only [Act.put, List.setIfInBounds_toArray, List.set_cons_zero, List.set_cons_succ]
  refine carried 5 rfl (by kernel_rfl) (by rfl) (fun K hK => ?_)
  go_simp
  (go_at_call 25; ((with_reducible refine (KD.out _).mono ?_); rintro e w4 ⟨rfl, hB4⟩); have HB4 := Lib.hid (below_then HB3.out hB4); clear hB4)
  refine hK.out _ _ ((SB.out _ HB4.out)) (fun hHeld => ?_)
  clear hK K
  try simp only [Act.put, List.setIfInBounds_toArray, List.set_cons_zero, List.set_cons_succ]
  refine took 6 (v := ?_) rfl (by kernel_rfl) (by kernel_rfl) (by kernel_rfl) (by kernel_rfl) (fun _ _ _ h => h) (by rfl) (by assumption) ?_ ?_
  rotate_left
  · (intro W hSw; (try dsimp only at hSw); go_simp; first | done | with_reducible rfl)
  try simp only [Act.put, List.setIfInBounds_toArray, List.set_cons_zero, List.set_cons_succ]
  refine carriedL 7 rfl (by kernel_rfl) (fun K hK => ?_)
  (refine step_make_full w4 (by rfl) _ _ _ (by rfl) w.heap.size 5 i0 (.int .u8 0) 1 Tryd.underlying27 hi.out hz0.out hz1.out .i64 .i64 N (by rfl) (by rfl) (by rw [hz2.out]; omega) (by unfold maxLen; omega) (Nat.le_trans hB2.out.size HB4.out.size) ?_; intro w5 ho5 hg5; have HB5 := HB4.out.grown hg5 HB4.out.size (fun k hk => by cases hk))
  refine hK.out _ _ ((SB.out _ HB5)) (fun hHeld => ?_)
  clear hK K
  try simp only [Act.put, List.setIfInBounds_toArray, List.set_cons_zero, List.set_cons_succ]
  refine took 8 (v := ?_) rfl (by kernel_rfl) (by kernel_rfl) (by kernel_rfl) (by kernel_rfl) (fun _ _ _ h => h) (by rfl) (by assumption) ?_ ?_
  rotate_left
  · (intro W hSw; (try dsimp only at hSw); go_simp; first | done | with_reducible rfl)
  try simp only [Act.put, List.setIfInBounds_toArray, List.set_cons_zero, List.set_cons_succ]
  refine allDone (by kernel_rfl) ?_ _
  rw [Nat.mul_one] at ho5
  have HBw5 := Lib.hid (below_then hB2.out HB5)
  have HB5' := Lib.hid HB5
  have hg13 : w2.heap.size ≤ w4.heap.size := HB4.out.size
  have hg13b : w.heap.size ≤ w4.heap.size := Nat.le_trans hB2.out.size hg13
  replace ho5 := Lib.hid ho5
  clear hHeld hc hg5 HB5 HB3 HB4 hmul KN
  generalize w4.heap.size = g13 at *
  have hRB := RB.out _ HBw5.out
  go_wp2_with (first
    | (refine wpList_copy_head rfl (.tmp 44) (.tmp 45) 27 27 rfl 5 Tryd.underlying27 u8_size1 (some ⟨g13, 0, none⟩) N N w.heap.size _ rfl ho5.out A n c nN rfl w.heap.size _ hRB (row_one hRB) ?_; intro w6 ho6 hg6; have HB6 := Lib.hid (HB5'.out.grown hg6 HB5'.out.size (fun k hk => by injection hk with hk; subst hk; exact hg13)); have HBw6 := Lib.hid (HBw5.out.grown hg6 HBw5.out.size (fun k hk => by injection hk with hk; subst hk; exact hg13b)); rw [PADE.out] at ho6; replace ho6 := Lib.hid ho6; clear hg6 ho5 hRB)
    | (at_make; refine wpList_make_own _ rfl _ _ 27 rfl w.heap.size 5 i0 (.int .u8 0) 1 Tryd.underlying27 hi.out hz0.out hz1.out .i64 .i64 _ T rfl rfl rfl (by rw [hz2.out]; omega) (by unfold maxLen; omega) HBw6.out.size ?_; intro w7 ho7 hg7; have HB7 := Lib.hid (HB6.out.grown hg7 HB6.out.size (fun k hk => by cases hk)); have HBw7 := Lib.hid (HBw6.out.grown hg7 HBw6.out.size (fun k hk => by cases hk)); have HR7 : Hid (Reads w7 w6.heap.size 1 (some ⟨g13, 0, none⟩) N ((Stp.padB d bs).map B8)) := (Reads.of_own ho6.out).keep fun p hp => World.cell?_of_block (hg7.block p.block hp (by simp)); have HL7 := Lib.hid hg7.size; have HG := Lib.hid (Nat.le_trans HB6.out.size (Nat.le_refl _)); replace ho7 := Lib.hid ho7; clear hg7))
  have hg14 : w2.heap.size ≤ w6.heap.size := HB6.out.size
  have hg14b : w.heap.size ≤ w6.heap.size := HBw6.out.size
  have hg14c : w6.heap.size ≤ w7.heap.size := HL7.out
  have hg14lt : w6.heap.size < w7.heap.size := (ho7.out.lt _ rfl).2
  generalize w6.heap.size = g14 at *
  obtain ⟨P, hP⟩ : ∃ P, Stp.padB d bs = P := ⟨_, rfl⟩
  rw [hP] at HR7
  have PL : Hid (P.length = S * (k * ch)) := by
    have s := SH.out
    rw [Hid, ← hP, s.hd, Stp.padB_len (by rw [← s.hd]; exact d1), BL.out, ← s.hS]
  have LAY : Hid (Stp.layB k m ch P S = Stp.layV k m ch bs) := by
    have s := SH.out
    unfold Stp.layV
    rw [BL.out, ← s.hd, hP, s.hd, ← s.hS]
    exact Lib.hid rfl
  replace hP := Lib.hid hP
  have SA : Hid (∀ W A14, Aside w7 W g14 A14 → W.cell? ⟨gs, 0, none⟩ = some (.int .i64 k) ∧ W.cell? ⟨gs, 1, none⟩ = some (.int .i64 m) ∧ W.cell? ⟨gs, 2, none⟩ = some (.int .i64 ch)) := fun W A14 hW => by
    obtain ⟨q0, q1, q2⟩ := SB.out w7 HB7.out
    exact ⟨(hW.cell (by show gs < g14; omega) hg14c).trans q0, (hW.cell (by show gs < g14; omega) hg14c).trans q1, (hW.cell (by show gs < g14; omega) hg14c).trans q2⟩
  clear HB7 SB
  clear HB6 HBw6 HB5' HBw5 ho6 HL7 HG PADE RB
  go_wp2_with fail
  go_loopw [13, 14] (fun v13 v14 wr => ∃ (t R M c13 c14 : Nat) (A13 A14 : Option Addr), v13 = .slice A13 R c13 ∧ v14 = .slice A14 M c14 ∧ t ≤ S ∧ R ≤ c13 ∧ c13 ≤ 9433088 ∧ M ≤ 16777216 ∧ Hid (R + t * d = N) ∧ Hid (M = t * L) ∧ Hid (Aside w7 wr g14 A14) ∧ Hid (Below w.heap.size w wr) ∧ Hid (Reads wr g14 1 A13 R ((P.drop (t * d)).map B8)) ∧ Hid (wr.ownsRow w.heap.size 5 1 (.slice A14 M c14) M ((Stp.layB k m ch P t).map B8))) (fun v13 _ _ => lenOfS v13)
  case atStart => exact ⟨0, N, 0, N, T, _, _, rfl, rfl, by omega, by omega, by omega, by omega, by show N + 0 * d = N; rw [Nat.zero_mul]; rfl, by show 0 = 0 * L; rw [Nat.zero_mul], ⟨Nat.le_refl _, fun _ _ _ => rfl, fun k hk => by injection hk with hk; exact .inl hk.symm⟩, HBw7, by rw [Nat.zero_mul, List.drop_zero]; exact HR7, by simpa [Hid, Stp.layB] using ho7.out⟩
  case round =>
    clear HBw7 HR7 ho7
    obtain ⟨t, R, M, c13, c14, A13, A14, rfl, rfl, htS, hRc, hc13, hM, HRN, HM, HA, HB, HR, HO⟩ := hrel
    by_cases hlt : t < S
    · have hdN := SH.out.dN hlt
      have hLT := SH.out.LT hlt
      have hRd : d ≤ R := by have := HRN.out; omega
      have hR0 : (0 : Int) < (R : Int) := by omega
      have hR0n : 0 < R := by omega
      have hdc : (d : Int) ≤ (c13 : Int) := by omega
      have hd0 : (0 : Int) ≤ (d : Int) := by omega
      have hcc := SA.out wr _ HA.out
      clear hdN
      go_wp2_with fail
      refine (KD.out _).mono ?_; rintro e wa ⟨rfl, hBa⟩
      have hwr : w7.heap.size ≤ wr.heap.size := HA.out.size
      have HRa : Hid (Reads wa g14 1 A13 R ((P.drop (t * d)).map B8)) := HR.out.below (hBa.mono (by omega))
      replace hBa := Lib.hid hBa
      clear hcc
      go_wp2_with fail
      have CH1 := SH.out.c1
      refine (chunk_any A13 d c13 ch _ CH1).mono ?_
      rintro e wb ⟨rfl, hwb⟩
      have hbb : Below wa.heap.size wa wb := by rw [← hwb]; exact ((Below.refl _ _).alloc (Nat.le_refl _) _).alloc (by simp) _
      have cb1 : wb.cell? ⟨wa.heap.size, 0, none⟩ = some (.slice A13 d c13) := by
        rw [← hwb, World.cell?_alloc_lt _ _ _ (by simp)]
        exact (Boxed.new wa 27 (.slice A13 d c13)).cell
      have cb2 : wb.cell? ⟨wa.heap.size + 1, 0, none⟩ = some (.int .i64 ch) := by
        rw [← hwb]
        simp
      have hbs : wb.heap.size = wa.heap.size + 1 + 1 := by rw [← hwb]; simp
      have HBb := Lib.hid (below_then hBa.out hbb)
      have HRb : Hid (Reads wb g14 1 A13 d (((P.drop (t * d)).take d).map B8)) := (HRa.out.below (hbb.mono (Nat.le_trans (Nat.le_trans hg14c hwr) hBa.out.size))).takeN hRd
      have KC := Lib.hid (collect_any wa.heap.size (wa.heap.size + 1) A13 d c13 ch k SH.out.hd CH1 (Nat.le_trans hRd hRc) (by omega) (by have := SH.out.km; omega) wb cb1 cb2 (by omega) (by omega))
      have hbl : wr.heap.size ≤ wb.heap.size := HBb.out.size
      clear hwb hbb cb1 cb2 hbs hBa HRa CH1
      generalize chunkF wa.heap.size (wa.heap.size + 1) = fv at *
      go_wp2_with fail
      refine KC.out.mono ?_; rintro e wc ⟨v, rfl, hoc, hBc⟩
      obtain ⟨Ac, cc, rfl⟩ := own_slice hoc
      have hL0 : Lists wc g14 wb.heap.size Ac k cc (Stp.partsB k ch ((P.drop (t * d)).take d)) := collected_lists hoc (HRb.out.below (hBc.mono (Nat.le_trans (Nat.le_trans hg14c hwr) hbl))) SH.out.hd (Nat.le_trans (Nat.le_trans hg14c hwr) hbl) hBc.size (by have := SH.out.c2; unfold maxLen; omega)
      have HBc := Lib.hid (below_then HBb.out hBc)
      have hbl2 : wb.heap.size ≤ wc.heap.size := hBc.size
      generalize wb.heap.size = bl at *
      have hPd : ((P.drop (t * d)).take d).length = d := by
        have := HRb.out.len; omega
      have hparts : ∀ x ∈ Stp.partsB k ch ((P.drop (t * d)).take d), x.length = ch := Stp.partsB_all (by rw [hPd]; exact SH.out.hd)
      have hone : Hid (((Rsp.allV k m ch (Stp.partsB k ch ((P.drop (t * d)).take d))).map Crcp.put).flatten = Stp.oneB k m ch ((P.drop (t * d)).take d)) := rfl
      have hpl := Stp.partsB_len k ch ((P.drop (t * d)).take d)
      have hall : ∀ x ∈ Rsp.allV k m ch (Stp.partsB k ch ((P.drop (t * d)).take d)), x.length = ch := Rsp.allV_all hparts
      have halln : (Rsp.allV k m ch (Stp.partsB k ch ((P.drop (t * d)).take d))).length = k + m := Rsp.allV_len hpl
      have hallE : Rsp.allV k m ch (Stp.partsB k ch ((P.drop (t * d)).take d)) = Stp.partsB k ch ((P.drop (t * d)).take d) ++ Rsp.timesP m k ch (cauC k) (Stp.partsB k ch ((P.drop (t * d)).take d)) := rfl
      have hmay : Rsp.may (k : Int) (m : Int) = true := by have := SH.out.km; have := SH.out.k1; unfold Rsp.may; exact decide_eq_true (by omega)
      have hpar := Rsp.par_all (p := m) hmay SH.out.k1 hpl hparts
      have KP := parity_any (m : Int) Ac k cc _ wc hL0.rows8 (by have := SH.out.km; omega) (fun x hx => by rw [hparts x hx]; have := SH.out.c2; omega)
      rw [hpar.1, hpar.2, Rsp.timesP_len] at KP
      unfold LsErr at KP
      generalize Stp.partsB k ch ((P.drop (t * d)).take d) = X at *
      generalize Rsp.timesP m k ch (cauC k) X = Y at *
      generalize hV : Rsp.allV k m ch X = V at *
      replace hV := Lib.hid hV
      replace hallE := Lib.hid hallE; replace hall := Lib.hid hall; replace halln := Lib.hid halln; replace KP := Lib.hid KP; replace hL0 := Lib.hid hL0
      clear hoc hBc HBb KC hpar hparts HRb hPd hpl
      go_wp2_with fail
      refine KP.out.mono ?_; rintro e wd ⟨Ay, cy, rfl, hly, hBd⟩
      have HBd := Lib.hid (below_then HBc.out hBd)
      have hbd : bl ≤ wd.heap.size := Nat.le_trans hbl2 hBd.size
      obtain ⟨⟨vd, hd1, hd2, hd3⟩, hdb, hd0⟩ := hL0.out.below hBd
      obtain ⟨⟨vy, hy1', hy2', hy3'⟩, hyb, hy0'⟩ := hly.older (b0' := g14) (base' := bl) (Nat.zero_le _) hd0 hbl2
      have hyl : vy.length = m := by have := hy1'.1; omega
      have hyo := Lib.hid (rows_one (hyl.trans hy2'.symm) hy3')
      have hcp1 : k + m ≤ maxLen := by have := SH.out.km; unfold maxLen; omega
      have hcp2 : (k + m) * 24 ≤ 140737488355328 := by have := SH.out.km; omega
      replace hd1 := Lib.hid hd1; replace hd2 := Lib.hid hd2; replace hd3 := Lib.hid hd3; replace hdb := Lib.hid hdb; replace hd0 := Lib.hid hd0; replace hy1' := Lib.hid hy1'; replace hy2' := Lib.hid hy2'; replace hy3' := Lib.hid hy3'; replace hyb := Lib.hid hyb; replace hy0' := Lib.hid hy0'; replace hyl := Lib.hid hyl
      clear hly hBd HBc hL0 KP
      go_wp2_with (at_builtin; refine wpList_append_any _ rfl (.tmp 65) (.tmp 66) 55 rfl bl 27 i1 (.slice none 0 0) 1 24 Tryd.underlying55 hi1.out hy0.out hy1.out hy2.out rfl (by omega) Ac k cc _ rfl hd1.out wd.heap.size Ay m cy _ rfl (Reads.of_own hy1'.out) hyo.out hcp1 hcp2 hdb.out ?_; intro A4 c4 we ho4 hgq _hsq; have hBe : Below wr.heap.size wr we := HBd.out.grown hgq (Nat.le_trans hbl hdb.out) (fun q hq => Nat.le_trans hbl (hd1.out.lt q (by rw [ownBlock_slice]; exact hq)).1); have hC4 := Lists.cat hd1.out hd2.out hd3.out hd0.out hdb.out hyl.out hy2'.out hy3'.out ho4 hgq; replace hBe := Lib.hid hBe; replace hC4 := Lib.hid hC4; clear ho4 hgq _hsq)
      rw [← hallE.out] at hC4
      clear hd1 hd2 hd3 hdb hd0 hy1' hy2' hy3' hyb hy0' hyl hyo hcp1 hcp2 HBd hallE
      obtain ⟨gq, hgq⟩ : ∃ gq, blkOf A14 g14 = gq := ⟨_, rfl⟩
      have hgo : gq = g14 ∨ w7.heap.size ≤ gq := by
        rcases blkOf_or A14 g14 with e | e
        · exact .inl (hgq ▸ e)
        · rw [hgq] at e; exact HA.out.row gq e
      have hgq1 : g14 ≤ gq := by omega
      have hgq2 : gq < bl := by
        rcases blkOf_or A14 g14 with e | e
        · rw [← hgq, e]; omega
        · rw [hgq] at e
          have := (HO.out.lt gq (by rw [ownBlock_slice]; exact e)).2
          omega
      have HAe := Lib.hid (HA.out.below hBe.out)
      have HAx : Hid (Aside we we gq A14) := Aside.here fun q hq => .inl (hgq ▸ blkOf_spec hq)
      have HBe := Lib.hid (below_then HB.out hBe.out)
      have HOe : Hid (we.ownsRow w.heap.size 5 1 (.slice A14 M c14) M ((Stp.layB k m ch P t).map B8)) := own_belowL HO.out hBe.out
      have HRe : Hid (Reads we g14 1 A13 R ((P.drop (t * d)).map B8)) := HR.out.below (hBe.out.mono (Nat.le_trans hg14c hwr))
      have hwe : w7.heap.size ≤ we.heap.size := HAe.out.size
      have ROW := Lib.hid (fun (W : World) (Aq : Option Addr) (hW : Aside we W gq Aq) (j : Nat) (hj : j < k + m) => (hC4.out.aside hgq1 hgq2 hW).rows8.row hj)
      have VL : Hid (∀ x ∈ V, x.length = ch) := hall.out
      have VN : Hid (V.length = k + m) := halln.out
      have VONE : Hid ((V.map Crcp.put).flatten = Stp.oneB k m ch ((P.drop (t * d)).take d)) := hone.out
      have TBw := Lib.hid (fun W (hW : Below w.heap.size w W) => TB.out W hW)
      have hkm : k + m ≤ 255 := SH.out.km
      have CH1 := SH.out.c1
      have CH2 := SH.out.c2
      obtain ⟨q, hq⟩ : ∃ q, k + m = q := ⟨_, rfl⟩
      have hML : M + q * (ch + 4) ≤ 16777216 := by
        have h1 := HM.out
        have h2 := SH.out.hL
        rw [hq] at h2
        rw [h2] at hLT
        rw [h1, h2]; omega
      rw [hq] at ROW VN hkm
      clear HA HB HO HR hBe hC4 hall halln hone hV
      replace hq := Lib.hid hq
      go_wp2_with fail
      go_loopw [69, 14] (fun v69 v14 wx => ∃ (j Mq cq : Nat) (Aq : Option Addr), v69 = .int .i64 j ∧ v14 = .slice Aq Mq cq ∧ j ≤ q ∧ Mq ≤ 16777216 ∧ Hid (Mq = M + j * (ch + 4)) ∧ Hid (Aside we wx gq Aq) ∧ Hid (Below w.heap.size w wx) ∧ Hid (wx.ownsRow w.heap.size 5 1 (.slice Aq Mq cq) Mq ((Stp.layB k m ch P t ++ ((V.take j).map Crcp.put).flatten).map B8))) (fun v69 _ _ => q - (intOf v69).toNat)
      case atStart => exact ⟨0, M, c14, A14, rfl, rfl, Nat.zero_le _, hM, by show M = M + 0 * (ch + 4); rw [Nat.zero_mul]; rfl, HAx, HBe, by simpa [Hid] using HOe.out⟩
      case round =>
        clear HBe HOe HAx
        obtain ⟨j, Mq, cq, Aq, rfl, rfl, hjq, hMq, HMq, HAq, HBq, HOq⟩ := hrel
        by_cases hlt2 : j < q
        · have hlt2n : j < k + m := by rw [hq.out]; exact hlt2
          have hlt2' : (j : Int) < (k : Int) + (m : Int) := by omega
          have hjb : j ≤ 255 := by omega
          obtain ⟨ad, xs, Ai, ni, ci, hAd, -, hx, hcell, hnic, hcim, hrow⟩ := ROW.out wr Aq HAq.out j hlt2
          subst hAd
          have TK : Hid (V.take (j + 1) = V.take j ++ [xs]) := by rw [Hid, List.take_add_one, hx]; rfl
          have hxl := VL.out xs (List.mem_of_getElem? hx)
          have hni : ni = ch := by have := hrow.len; omega
          rw [hni] at hcell hnic hrow
          have KPut := Lib.hid (put_any Ai ch ci wr.heap.size xs wr (TBw.out wr HBq.out) hrow (Nat.le_refl _) hnic hcim (by omega))
          have hMn : Mq + (ch + 4) ≤ 16777216 := by
            have := HMq.out
            have h2 : (j + 1) * (ch + 4) ≤ q * (ch + 4) := Nat.mul_le_mul_right _ hlt2
            rw [Nat.succ_mul] at h2; omega
          clear hx hrow hML
          unfold SlRet at KPut
          go_wp2_with fail
          refine KPut.out.mono ?_; rintro e wp ⟨Ap, cp, rfl, hfp⟩
          have HAp := Lib.hid (HAq.out.below hfp.2)
          have HBp := Lib.hid (below_then HBq.out hfp.2)
          have HOp := Lib.hid (own_belowL HOq.out hfp.2)
          have HRp := Lib.hid hfp.reads
          have ONE : Hid (∀ u ∈ (Crcp.put xs).map B8, u.oneCell' = true) := row_one hfp.reads
          have hMx : Mq + (ch + 4) ≤ maxLen := by unfold maxLen; omega
          have hMy : (Mq + (ch + 4)) * 1 ≤ 140737488355328 := by omega
          have hszp : w.heap.size ≤ wp.heap.size := HBp.out.size
          clear hfp KPut hcell HAq HBq HOq
          go_wp2_with (at_builtin; refine wpList_append_any _ rfl (.tmp 73) (.tmp 75) 27 rfl w.heap.size 5 i0 (.int .u8 0) 1 1 Tryd.underlying27 hi.out hz0.out hz1.out hz2.out rfl (by omega) Aq Mq cq _ rfl HOp.out wp.heap.size Ap (ch + 4) cp _ rfl HRp.out ONE.out hMx hMy hszp ?_; intro A5 c5 w4 ho5 hg5 hs5; have HA5 := Lib.hid (HAp.out.grow hg5 hs5); have HB5 : Below w.heap.size w w4 := below_app HBp.out hg5 HOp.out hszp; replace HB5 := Lib.hid HB5; replace ho5 := Lib.hid ho5; clear hg5 hs5)
          go_roundw
          case rel =>
            refine ⟨j + 1, Mq + (ch + 4), c5, A5, by go_num, rfl, by omega, hMn, ?_, HA5, HB5, ?_⟩
            · show Mq + (ch + 4) = M + (j + 1) * (ch + 4)
              rw [HMq.out, Nat.succ_mul, Nat.add_assoc]
            · have h5 := ho5.out
              rw [TK.out]
              simpa [Hid, List.append_assoc] using h5
          case measure => simp [intOf]; omega
        · have hge : (k : Int) + (m : Int) ≤ (j : Int) := by have := hq.out; omega
          have hge2 : ¬ (j : Int) < (k : Int) + (m : Int) := by omega
          obtain rfl : j = q := by omega
          rw [List.take_of_length_le (by rw [VN.out]; omega), VONE.out] at HOq
          have HA' := Lib.hid (HAe.out.trans2 HAq.out hgo)
          have HR' := Lib.hid (HRe.out.aside hgq1 (Nat.le_trans hg14c hwe) HAq.out)
          have hcc := SA.out wr _ HA'.out
          have hd0' : (0 : Int) ≤ (d : Int) := by omega
          have hdR : (d : Int) ≤ (R : Int) := by omega
          have hcut := run_cut_lo (P := Tryd.prog) 27 5 i0 1 Tryd.underlying27 hi.out hz1.out A13 R c13 d .i64 hRd
          have hwer : we.heap.size ≤ wr.heap.size := HAq.out.size
          clear HAq HRe HAe
          go_wp2_with fail
          refine (KD.out _).mono ?_; rintro e wz ⟨rfl, hBz⟩
          have HAz := Lib.hid (HA'.out.below hBz)
          have HBz := Lib.hid (below_then HBq.out hBz)
          have HOz := Lib.hid (own_belowL HOq.out hBz)
          have HRz := Lib.hid ((HR'.out.below (hBz.mono (Nat.le_trans (Nat.le_trans hg14c hwe) hwer))).cutN hRd hRc)
          clear hBz HA' HBq HOq HR' hcc
          go_wp2_with fail
          go_roundw
          case rel =>
            refine ⟨t + 1, R - d, Mq, c13 - d, cq, cutA A13 c13 d 1, Aq, rfl, rfl, by omega, by omega, by omega, hMq, ?_, ?_, HAz, HBz, ?_, ?_⟩
            · show R - d + (t + 1) * d = N
              have := HRN.out
              rw [Nat.succ_mul]; omega
            · show Mq = (t + 1) * L
              have h2 := SH.out.hL
              rw [hq.out] at h2
              rw [HMq.out, HM.out, Nat.succ_mul, h2]
            · have h5 := HRz.out
              rw [List.drop_drop] at h5
              rw [Nat.succ_mul]; exact h5
            · rw [Stp.layB_step, ← SH.out.hd]; exact HOz.out
          case measure => simp [lenOfS]; omega
    · have hts : t = S := by omega
      subst hts
      have hRz : R = 0 := by have := HRN.out; have := SH.out.hN; omega
      have hMT : M = T := by rw [HM.out, SH.out.hT]
      subst hRz
      subst hMT
      have hR0 : ¬ (0 : Int) < ((0 : Nat) : Int) := by omega
      have HOl : Hid (wr.ownsRow w.heap.size 5 1 (.slice A14 M c14) M ((Stp.layV k m ch bs).map B8)) := by rw [← LAY.out]; exact HO.out
      clear HO HR HA LAY
      go_wp2_with fail
      go_ret2
      exact ⟨_, _, rfl, HOl.out, HB.out⟩
end Go.Proofs.YtjbedcgacnnanaaDoor
