/-
  slices.Chunk over bytes: its iterator; slices.Collect of it.
-/
import Derived.Test.YtjbedcgacnnanaaDoorRse
import Derived.RangeFuncBox
import Derived.RangeFuncLeaves
import Derived.Shelf.Abstract
import Derived.WalkKit
import Derived.OwnWalkIn
import Derived.TacticsInMore
import Derived.LoopNIn
import Derived.LoopIn
import Derived.BigRegionIn
import Derived.Sort.QuietTacIn
import Derived.Sort.BigQuietIn
import Derived.Maps.AppendAt
namespace Go.Proofs.YtjbedcgacnnanaaDoor
set_option linter.unusedSimpArgs false
set_option linter.unusedVariables false
open Go.RowKit Go.Shelf
attribute [local go_sem] Oper.semAt_some

/-- the chunk number x, ch bytes -/
def chunkV (A : Option Addr) (ch x : Nat) : Value := .slice (A.map (·.add (x * ch))) ch ch
theorem run_cut3 (A : Option Addr) (n c i s ch : Nat) (hs : s = i + ch) (h1 : 1 ≤ ch) (hc : s ≤ c) (W : World) :
    (Instr.slice 27 (.slice A n c) (some (.int .i64 (i : Int))) (some (.int .i64 (s : Int))) (some (.int .i64 (s : Int)))).run Tryd.prog W = .ok (.slice (A.map (·.add i)) ch ch) W := by
  have ht : Tryd.prog.underlying 27 = some (.slice (Tryd.prog.elem 27)) := by kernel_rfl
  rw [run_slice_lhm W 27 A n c ht .i64 .i64 .i64 (i : Int) (s : Int) (s : Int) (by omega) (by omega) (Int.le_refl _) (by omega)]
  have hz : (sizeOf (Tryd.prog.elem 27)).run Tryd.prog W = .ok 1 W := by
    obtain ⟨i0, hi, hz0, hz1, hz2⟩ := info_parts info_u8
    have he : Tryd.prog.elem 27 = 5 := by kernel_rfl
    rw [he]
    simp [sizeOf, typeInfo, hi, hz1]
  rw [hz]
  simp only [Result.andThen, Int.toNat_natCast, sliced]
  rw [if_neg (by omega), Nat.mul_one, show s - i = ch by omega]
theorem fin_take (q k : Nat) (h : k < q) : (List.finRange q).take (k + 1) = (List.finRange q).take k ++ [⟨k, h⟩] := by
  rw [List.take_add_one, List.getElem?_eq_getElem (by simpa using h)]
  simp
set_option maxRecDepth 100000 in
set_option maxHeartbeats 4000000 in
theorem chunk1_in (F : Fence) (n : Nat) (hf : F.fn 36) (hro : F.round = none) (hn : 1 ≤ n) (l Bs Bn n₀ : Nat) (A : Option Addr) (N c ch q : Nat) (hN : N = q * ch) (h1 : 1 ≤ ch) (hc : N ≤ c) (hNb : N ≤ 1000000000) (J Jx : List (Fin q) → World → Prop) (hJd : ∀ s W m, J s W → J s (W.drewN m))
    (hY : ∀ pre x W, J pre W → pre.length < q → YieldAt F (n - 1) Tryd.prog l #[chunkV A ch x.val] W fun e W' =>
      (e = .returned (.bool true) ∧ J (pre ++ [x]) W' ∧ Below n₀ W W') ∨ (e = .returned (.bool false) ∧ Jx (pre ++ [x]) W'))
    (W : World) (hBs : W.cell? ⟨Bs, 0, none⟩ = some (.slice A N c)) (hBn : W.cell? ⟨Bn, 0, none⟩ = some (.int .i64 ch)) (hs : Bs < n₀) (hnn : Bn < n₀) (h0 : J [] W) :
    CallsIn F n Tryd.prog 36 #[.func (.yield l) #[] #[], .pointer (some ⟨Bs, 0, none⟩), .pointer (some ⟨Bn, 0, none⟩)] W fun e W' => (∃ v, e = .returned v) ∧
      ((∃ ys, ys = List.finRange q ∧ J ys W') ∨ (∃ pre, (∃ k, k ≤ q ∧ pre = (List.finRange q).take k) ∧ Jx pre W')) := by
  obtain ⟨i0, hi, hz0, hz1, hz2⟩ := info_parts info_u8
  have CUT := Lib.hid (fun (i : Nat) (h : i ≤ N) => run_cut_lo (P := Tryd.prog) 27 5 i0 1 Tryd.underlying27 hi hz1 A N c i .i64 h)
  have CUT3 := Lib.hid (fun (i s : Nat) (h2 : s = i + ch) (h3 : s ≤ c) => run_cut3 A N c i s ch h2 h1 h3)
  clear hi hz0 hz1 hz2
  have HN := Lib.hid hN
  clear hN
  refine callsIn_of_wp Tryd.func36 rfl hf ?_ hro
  simp only [Tryd.ntmps36, List.size_toArray, List.length_cons, List.length_nil, Nat.reduceAdd, Nat.reduceSub, Array.replicate_succ, Array.replicate_zero, List.push_toArray, List.append_toArray, List.nil_append, List.cons_append]
  gi_wp2
  gi_loopw [4] (fun v4 wr => ∃ k i : Nat, k ≤ q ∧ v4 = .int .i64 i ∧ i ≤ N ∧ Hid (i = k * ch) ∧ J ((List.finRange q).take k) wr ∧ Below n₀ W wr)
    (fun v4 _ => N - (intOf v4).toNat)
  case atStart => exact ⟨0, 0, Nat.zero_le _, rfl, Nat.zero_le _, by show 0 = 0 * ch; rw [Nat.zero_mul], h0, Below.refl _ _⟩
  case round =>
    obtain ⟨k, i, hk, rfl, hiN, HI, hJs, hnx⟩ := hrel
    have c1 := (hnx.cell (p := ⟨Bs, 0, none⟩) hs).trans hBs
    have c2 := (hnx.cell (p := ⟨Bn, 0, none⟩) hnn).trans hBn
    by_cases hlt : k < q
    · have hik : i + ch ≤ N := by
        rw [HI.out, HN.out, ← Nat.succ_mul]; exact Nat.mul_le_mul_right _ hlt
      have hlt' : (i : Int) < (N : Int) := by omega
      obtain ⟨s, hs2⟩ : ∃ s, s = i + ch := ⟨_, rfl⟩
      have hsum : (i : Int) + (ch : Int) = (s : Int) := by omega
      have hsb : s ≤ 1000000000 := by omega
      have his : i < s := by omega
      have hsc : (s : Int) ≤ (c : Int) := by omega
      have hcut := CUT.out i hiN
      have hcut3 := CUT3.out i s hs2 (by omega)
      have hmin : ¬ N - i < ch := by omega
      have hmin2 : ¬ ((N - i : Nat) : Int) < (ch : Int) := by omega
      have hnn0 : (0 : Int) ≤ ((N - i : Nat) : Int) := by omega
      generalize hni : N - i = ni at *
      replace hni := Lib.hid hni
      clear CUT CUT3
      have hcv : chunkV A ch (⟨k, hlt⟩ : Fin q).val = .slice (A.map (·.add i)) ch ch := by unfold chunkV; rw [HI.out]
      rw [show A.map (·.add i) = A.map (·.add i) from rfl] at hcv
      generalize A.map (·.add i) = Ai at *
      replace hs2 := Lib.hid hs2
      gi_wp2
      refine wpIn_region_quiet_lit hro (by kernel_rfl) (by kernel_rfl) ?_
      repeat (gi_big_quiet_step (fail))
      refine wpQuietIn_nil ?_
      intro _ hw'
      obtain ⟨nq, hw''⟩ := hw'
      subst hw''
      obtain ⟨fn, tmps, assign, body, hy, hR⟩ := hY _ ⟨k, hlt⟩ (wr.drewN nq) (hJd _ _ _ hJs) (by rw [List.length_take, List.length_finRange]; omega)
      rw [hcv] at hy
      clear hcv hcut
      gi_wp2
      refine hR.mono ?_
      rintro e W3 (⟨rfl, hJ3, hk3⟩ | ⟨rfl, hJx3⟩)
      · have c3 := (hk3.cell (p := ⟨Bn, 0, none⟩) hnn).trans c2
        gi_wp2
        go_roundw
        case rel => exact ⟨k + 1, s, by omega, rfl, by omega, by show s = (k + 1) * ch; rw [Nat.succ_mul, ← HI.out]; exact hs2.out, by rw [fin_take q k hlt]; exact hJ3, hnx.trans ⟨hk3.os, hk3.tape, hk3.output, hk3.size, hk3.block⟩⟩
        case measure => simp [intOf]; omega
      · gi_wp2
        refine bodyPost_ret (results_none rfl _ _ _) rfl ?_
        exact ⟨⟨_, rfl⟩, .inr ⟨_, ⟨k + 1, by omega, (fin_take q k hlt).symm⟩, hJx3⟩⟩
    · obtain rfl : k = q := by omega
      have hge : (N : Int) ≤ (i : Int) := by have := HI.out; have := HN.out; omega
      rw [List.take_of_length_le (by simp)] at hJs
      gi_wp2
      go_end0
      exact ⟨⟨_, rfl⟩, .inl ⟨_, rfl, hJs⟩⟩
theorem chunk_stops (F : Fence) (n : Nat) (hf : F.fn 36) (hro : F.round = none) (hn : 1 ≤ n) (Bs Bn n₀ : Nat) (A : Option Addr) (N c ch q : Nat) (hN : N = q * ch) (h1 : 1 ≤ ch) (hc : N ≤ c) (hNb : N ≤ 1000000000) (w : World)
    (hBs : w.cell? ⟨Bs, 0, none⟩ = some (.slice A N c)) (hBn : w.cell? ⟨Bn, 0, none⟩ = some (.int .i64 ch)) (hs : Bs < n₀) (hnn : Bn < n₀) (hn₀ : n₀ ≤ w.heap.size) :
    SeqStopsK F n Tryd.prog 36 #[.pointer (some ⟨Bs, 0, none⟩), .pointer (some ⟨Bn, 0, none⟩)] (fun x : Fin q => #[chunkV A ch x.val]) (Below n₀) (fun ys => ys = List.finRange q) (fun pre => ∃ k, k ≤ q ∧ pre = (List.finRange q).take k) q w := fun l J Jx W hW hJ _ hY h0 =>
  chunk1_in F n hf hro hn l Bs Bn n₀ A N c ch q hN h1 hc hNb J Jx (fun s W' m hs => hJ s W' (W'.drewN m) none hs ⟨rfl, rfl, rfl, Nat.le_refl _, fun _ _ _ => rfl⟩ (fun r e => by cases e)) hY W ((hW.cell (p := ⟨Bs, 0, none⟩) (by show Bs < _; omega)).trans hBs) ((hW.cell (p := ⟨Bn, 0, none⟩) (by show Bn < _; omega)).trans hBn) hs hnn h0

set_option maxRecDepth 100000 in
set_option maxHeartbeats 4000000 in
/-- slices.AppendSeq(nil, the chunks) -/
theorem appendSeq_in (F : Fence) (n : Nat) (h35 : F.fn 35) (h36 : F.fn 36) (hro : F.round = none) (hn : 3 ≤ n) (Bs Bn : Nat) (A : Option Addr) (N c ch q : Nat) (hN : N = q * ch) (h1 : 1 ≤ ch) (hc : N ≤ c) (hNb : N ≤ 1000000000) (hq : q ≤ 100000) (w : World)
    (hBs : w.cell? ⟨Bs, 0, none⟩ = some (.slice A N c)) (hBn : w.cell? ⟨Bn, 0, none⟩ = some (.int .i64 ch)) (hs : Bs < w.heap.size) (hnn : Bn < w.heap.size) :
    CallsIn F n Tryd.prog 35 #[.slice none 0 0, .func (.func 36) #[] #[.pointer (some ⟨Bs, 0, none⟩), .pointer (some ⟨Bn, 0, none⟩)]] w fun e W' => ∃ v, e = .returned v ∧ W'.ownsRow w.heap.size 27 1 v q ((List.finRange q).map fun x => chunkV A ch x.val) ∧ Below w.heap.size w W' := by
  have hn1 : 1 ≤ n := by omega
  obtain ⟨i0, hi, hz0, hz1, hz2⟩ := info_parts info_row8
  have bS := Boxed.new w 55 (.slice none 0 0)
  have hB0 : Below w.heap.size w (w.alloc (.cells #[.slice none 0 0] 55)) := (Below.refl _ w).alloc (Nat.le_refl _) _
  have c1 := (hB0.cell (p := ⟨Bs, 0, none⟩) hs).trans hBs
  have c2 := (hB0.cell (p := ⟨Bn, 0, none⟩) hnn).trans hBn
  have hst := chunk_stops F (n - 1) h36 hro (by omega) Bs Bn w.heap.size A N c ch q hN h1 hc hNb (w.alloc (.cells #[.slice none 0 0] 55)) c1 c2 hs hnn hB0.size
  refine callsIn_of_wp_marks Tryd.func35 rfl h35 ?_ hro
  simp only [Tryd.ntmps35, List.size_toArray, List.length_cons, List.length_nil, Nat.reduceAdd, Nat.reduceSub, Array.replicate_succ, Array.replicate_zero, List.push_toArray, List.append_toArray, List.nil_append, List.cons_append]
  gi_wp2
  refine wpIn_rangeFunc_ownG hro hn1 (gf := 36) (lb := #[.pointer (some ⟨Bs, 0, none⟩), .pointer (some ⟨Bn, 0, none⟩)]) rfl h36 (enters_of Tryd.func36 (by kernel_rfl) rfl)
    hst belowK_t (belowK_b (by simp)) (Below.refl _ _) (fun _ => rfl)
    (fun (pre : List (Fin q)) W => (∃ v, Boxed W w.heap.size 55 v ∧ W.ownsRow w.heap.size 27 1 v pre.length (pre.map fun x => chunkV A ch x.val) ∧ True) ∧ Below w.heap.size w W)
    (fun _ _ _ => False)
    (OwnFrom.and (Own.from (holdsRow_own w.heap.size w.heap.size 55 27 1 (fun (pre : List (Fin q)) => pre.length) (fun (pre : List (Fin q)) => pre.map fun x => chunkV A ch x.val) (fun _ _ => True)) _) (ownFrom_below (Nat.le_refl _) (by simp)))
    (fun _ _ _ _ _ hs _ _ => hs)
    ⟨⟨_, bS, World.ownsRow_nil _ _ _ _, trivial⟩, hB0⟩
    (fun x => { tmps := #[.slice none 0 0, .func (.func 36) #[] #[.pointer (some ⟨Bs, 0, none⟩), .pointer (some ⟨Bn, 0, none⟩)], .pointer (some ⟨w.heap.size, 0, none⟩), undef, .slice none 0 0, chunkV A ch x.val, .func (.func 36) #[] #[.pointer (some ⟨Bs, 0, none⟩), .pointer (some ⟨Bn, 0, none⟩)], chunkV A ch x.val, undef, undef, undef, undef, undef], defers := [] }) ?assign ?body ?done ?stop
  case assign =>
    intro l x W K hK
    gi_wp2
    exact hK
  case body =>
    rintro l pre x W ⟨⟨v, hv, hrow, -⟩, hB⟩ hlt
    have hc := hv.cell
    obtain ⟨Ax, hAx⟩ : ∃ Ax, A.map (·.add (x.val * ch)) = Ax := ⟨_, rfl⟩
    have hx : chunkV A ch x.val = .slice Ax ch ch := by unfold chunkV; rw [hAx]
    simp only [hx]
    replace hx := Lib.hid hx
    clear hAx
    gi_wp2_with (gi_at_builtin; refine wpListIn_append_own _ rfl _ _ 55 rfl w.heap.size 27 i0 (.slice none 0 0) 1 24 Tryd.underlying55 hi hz0 hz1 hz2 rfl (by decide) _ _ _ rfl (hrow.alloc _) ⟨W.heap.size, 0, none⟩ 1 1 [.slice Ax ch ch] rfl rfl (cell_one_new _ _ _) (by simp [Value.oneCell']) (by unfold maxLen; omega) (by omega) (by have := hB.size; simp; omega) ?_; intro v' w1 hown' hgrow _; obtain ⟨g', cap', rfl⟩ := ownsRow_succ hown'; obtain ⟨hv1, hv2, hr2, hk2, hb2⟩ := hv.appended (by decide) hrow hB.size (Nat.le_refl _) hown' hgrow; have hc1 := hv1.cell; have hf1 := hv1.frozen)
    exact ⟨hk2.from _, hb2, ⟨_, hv2, by simpa [hx.out] using hr2, trivial⟩, hB.trans hb2⟩
  case done =>
    rintro D ys W hD rfl ⟨⟨v, hv, hrow, -⟩, hB⟩ hK
    have hc := hv.cell
    gi_wp2
    refine ⟨by simp, .inl ⟨_, _, rfl, run_takeDeferred hK, ?_⟩⟩
    refine ⟨_, results_tmp rfl _ _ _, v, rfl, ?_, hB.trans (belowK_b (w := w) (Nat.le_refl _) W D _ _ (by simp at hD; omega) hK rfl rfl)⟩
    rw [List.length_finRange] at hrow
    exact ownsRow_putObj hrow _ hK rfl
  case stop =>
    rintro D c pre W _ _ h _
    exact h.elim

/-- the function value that Chunk hands back -/
def chunkF (Bs Bn : Nat) : Value := .func (.func 36) #[] #[.pointer (some ⟨Bs, 0, none⟩), .pointer (some ⟨Bn, 0, none⟩)]
set_option maxRecDepth 100000 in
theorem chunk_any (A : Option Addr) (N c ch : Nat) (w : World) (h1 : 1 ≤ ch) :
    Calls Tryd.prog 27 #[.slice A N c, .int .i64 ch] w fun e w' => e = .returned (chunkF w.heap.size (w.heap.size + 1)) ∧ (w.alloc (.cells #[.slice A N c] 27)).alloc (.cells #[.int .i64 ch] 3) = w' := by
  unfold chunkF
  have h1' : ¬ ((ch : Int) < 1) := by omega
  go_enter Tryd.func27, Tryd.ntmps27
  go_wp2_with fail
  go_ret
  exact ⟨rfl, rfl⟩
set_option maxRecDepth 100000 in
set_option maxHeartbeats 1000000 in
/-- slices.Collect of the chunks -/
theorem collect_any (Bs Bn : Nat) (A : Option Addr) (N c ch q : Nat) (hN : N = q * ch) (h1 : 1 ≤ ch) (hc : N ≤ c) (hNb : N ≤ 1000000000) (hq : q ≤ 100000) (w : World)
    (hBs : w.cell? ⟨Bs, 0, none⟩ = some (.slice A N c)) (hBn : w.cell? ⟨Bn, 0, none⟩ = some (.int .i64 ch)) (hs : Bs < w.heap.size) (hnn : Bn < w.heap.size) :
    Calls Tryd.prog 26 #[chunkF Bs Bn] w fun e w' => ∃ v, e = .returned v ∧ w'.ownsRow w.heap.size 27 1 v q ((List.finRange q).map fun x => chunkV A ch x.val) ∧ Below w.heap.size w w' := by
  have K := Lib.hid (callsIn_wide.1 (appendSeq_in Fence.wide 5 trivial trivial rfl (by omega) Bs Bn A N c ch q hN h1 hc hNb hq w hBs hBn hs hnn))
  unfold chunkF
  clear hN hBs hBn
  go_enter Tryd.func26, Tryd.ntmps26
  go_wp2_with fail
  refine K.out.mono ?_; rintro e w' ⟨v, rfl, ho, hB⟩
  go_wp2_with fail
  go_ret
  exact ⟨v, rfl, ho, hB⟩
end Go.Proofs.YtjbedcgacnnanaaDoor
