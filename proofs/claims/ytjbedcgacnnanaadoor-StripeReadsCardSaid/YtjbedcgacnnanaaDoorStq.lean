/-
  The iterator of slices.Chunk where the body of the loop writes to what lies about; the stripes' stripe, walked up to its loop.
-/
import Derived.Test.YtjbedcgacnnanaaDoorStm
import Derived.Test.YtjbedcgacnnanaaDoorStc
import Derived.Test.YtjbedcgacnnanaaDoorRsm
import Derived.Test.YtjbedcgacnnanaaDoorRso
import Derived.Test.YtjbedcgacnnanaaDoorStk
import Derived.RangeFuncWrites
namespace Go.Proofs.YtjbedcgacnnanaaDoor
set_option linter.unusedSimpArgs false
set_option linter.unusedVariables false
open Go.RowKit Go.Shelf
attribute [local go_sem] Oper.semAt_some

/-- two cells hold what they held -/
def CellsK (b1 b2 : Nat) (A B : World) : Prop := ∀ v, (A.cell? ⟨b1, 0, none⟩ = some v → B.cell? ⟨b1, 0, none⟩ = some v) ∧ (A.cell? ⟨b2, 0, none⟩ = some v → B.cell? ⟨b2, 0, none⟩ = some v)
theorem CellsK.refl (b1 b2 : Nat) (A : World) : CellsK b1 b2 A A := fun _ => ⟨id, id⟩
theorem CellsK.trans {b1 b2 : Nat} {A B C : World} (h : CellsK b1 b2 A B) (k : CellsK b1 b2 B C) : CellsK b1 b2 A C := fun v => ⟨fun h1 => (k v).1 ((h v).1 h1), fun h1 => (k v).2 ((h v).2 h1)⟩
theorem cell_putObj {W : World} {l : Nat} {o o' : Obj} {p : Addr} {v : Value} (h : W.heap[l]? = some o) (hc : o.isCells = false) (hp : W.cell? p = some v) : (W.putObj l o').cell? p = some v := by
  have hne : p.block ≠ l := by
    rintro rfl
    unfold World.cell? at hp
    rw [h] at hp
    cases o <;> simp_all [Obj.isCells]
  rw [← hp]
  exact World.cell?_of_block ((grownBy_putObj' W l o').block p.block (by
    have := lt_of_cell hp; exact this) (fun e => hne (by injection e)))
theorem CellsK.put (b1 b2 : Nat) {w : World} (W : World) (l : Nat) (o o' : Obj) (_ : w.heap.size ≤ l) (h : W.heap[l]? = some o) (hc : o.isCells = false) (_ : o.isWalk = false) : CellsK b1 b2 W (W.putObj l o') := fun _ => ⟨cell_putObj h hc, cell_putObj h hc⟩
set_option maxRecDepth 100000 in
set_option maxHeartbeats 4000000 in
theorem chunk1_cells (F : Fence) (n : Nat) (hf : F.fn 36) (hro : F.round = none) (hn : 1 ≤ n) (l Bs Bn : Nat) (A : Option Addr) (N c ch q : Nat) (hN : N = q * ch) (h1 : 1 ≤ ch) (hc : N ≤ c) (hNb : N ≤ 1000000000) (J Jx : List (Fin q) → World → Prop) (hJd : ∀ s W m, J s W → J s (W.drewN m))
    (hY : ∀ pre x W, J pre W → pre.length < q → YieldAt F (n - 1) Tryd.prog l #[chunkV A ch x.val] W fun e W' =>
      (e = .returned (.bool true) ∧ J (pre ++ [x]) W' ∧ CellsK Bs Bn W W') ∨ (e = .returned (.bool false) ∧ Jx (pre ++ [x]) W'))
    (W : World) (hBs : W.cell? ⟨Bs, 0, none⟩ = some (.slice A N c)) (hBn : W.cell? ⟨Bn, 0, none⟩ = some (.int .i64 ch)) (h0 : J [] W) :
    CallsIn F n Tryd.prog 36 #[.func (.yield l) #[] #[], .pointer (some ⟨Bs, 0, none⟩), .pointer (some ⟨Bn, 0, none⟩)] W fun e W' => (∃ v, e = .returned v) ∧
      ((∃ ys, ys = List.finRange q ∧ J ys W') ∨ (∃ pre, (∃ k, k ≤ q ∧ pre = (List.finRange q).take k) ∧ Jx pre W')) := by
  obtain ⟨i0, hi, hz0, hz1, hz2⟩ := info_parts info_u8
  have CUT := Lib.hid (fun (i : Nat) (h : i ≤ N) => run_cut_lo (P := Tryd.prog) 27 5 i0 1 Tryd.underlying27 hi hz1 A N c i .i64 h)
  have CUT3 := Lib.hid (fun (i s : Nat) (h2 : s = i + ch) (h3 : s ≤ c) => run_cut3 A N c i s ch h2 h1 h3)
  clear hi hz0 hz1 hz2
  have HN := Lib.hid hN
  clear hN
  refine callsIn_of_wp Tryd.func36 rfl hf ?_ hro
  simp only [Tryd.ntmps36, List.size_toArray, List.length_cons, List.length_nil, Nat.reduceAdd, Nat.reduceSub, Array.replicate_succ, Array.replicate_zero, List.push_toArray, List.append_toArray, List.nil_append, List.cons_append]
  gi_wp2
  gi_loopw [4] (fun v4 wr => ∃ k i : Nat, k ≤ q ∧ v4 = .int .i64 i ∧ i ≤ N ∧ Hid (i = k * ch) ∧ J ((List.finRange q).take k) wr ∧ CellsK Bs Bn W wr)
    (fun v4 _ => N - (intOf v4).toNat)
  case atStart => exact ⟨0, 0, Nat.zero_le _, rfl, Nat.zero_le _, by show 0 = 0 * ch; rw [Nat.zero_mul], h0, CellsK.refl _ _ _⟩
  case round =>
    obtain ⟨k, i, hk, rfl, hiN, HI, hJs, hnx⟩ := hrel
    have c1 := (hnx _).1 hBs
    have c2 := (hnx _).2 hBn
    by_cases hlt : k < q
    · have hik : i + ch ≤ N := by
        rw [HI.out, HN.out, ← Nat.succ_mul]; exact Nat.mul_le_mul_right _ hlt
      have hlt' : (i : Int) < (N : Int) := by omega
      obtain ⟨s, hs2⟩ : ∃ s, s = i + ch := ⟨_, rfl⟩
      have hsum : (i : Int) + (ch : Int) = (s : Int) := by omega
      have hsb : s ≤ 1000000000 := by omega
      have his : i < s := by omega
      have hsc : (s : Int) ≤ (c : Int) := by omega
      have hcut := CUT.out i hiN
      have hcut3 := CUT3.out i s hs2 (by omega)
      have hmin : ¬ N - i < ch := by omega
      have hmin2 : ¬ ((N - i : Nat) : Int) < (ch : Int) := by omega
      have hnn0 : (0 : Int) ≤ ((N - i : Nat) : Int) := by omega
      generalize hni : N - i = ni at *
      replace hni := Lib.hid hni
      clear CUT CUT3
      have hcv : chunkV A ch (⟨k, hlt⟩ : Fin q).val = .slice (A.map (·.add i)) ch ch := by unfold chunkV; rw [HI.out]
      rw [show A.map (·.add i) = A.map (·.add i) from rfl] at hcv
      generalize A.map (·.add i) = Ai at *
      replace hs2 := Lib.hid hs2
      gi_wp2
      refine wpIn_region_quiet_lit hro (by kernel_rfl) (by kernel_rfl) ?_
      repeat (gi_big_quiet_step (fail))
      refine wpQuietIn_nil ?_
      intro _ hw'
      obtain ⟨nq, hw''⟩ := hw'
      subst hw''
      obtain ⟨fn, tmps, assign, body, hy, hR⟩ := hY _ ⟨k, hlt⟩ (wr.drewN nq) (hJd _ _ _ hJs) (by rw [List.length_take, List.length_finRange]; omega)
      rw [hcv] at hy
      clear hcv hcut
      gi_wp2
      refine hR.mono ?_
      rintro e W3 (⟨rfl, hJ3, hk3⟩ | ⟨rfl, hJx3⟩)
      · have c3 := (hk3 _).2 c2
        gi_wp2
        go_roundw
        case rel => exact ⟨k + 1, s, by omega, rfl, by omega, by show s = (k + 1) * ch; rw [Nat.succ_mul, ← HI.out]; exact hs2.out, by rw [fin_take q k hlt]; exact hJ3, hnx.trans (fun v => hk3 v)⟩
        case measure => simp [intOf]; omega
      · gi_wp2
        refine bodyPost_ret (results_none rfl _ _ _) rfl ?_
        exact ⟨⟨_, rfl⟩, .inr ⟨_, ⟨k + 1, by omega, (fin_take q k hlt).symm⟩, hJx3⟩⟩
    · obtain rfl : k = q := by omega
      have hge : (N : Int) ≤ (i : Int) := by have := HI.out; have := HN.out; omega
      rw [List.take_of_length_le (by simp)] at hJs
      gi_wp2
      go_end0
      exact ⟨⟨_, rfl⟩, .inl ⟨_, rfl, hJs⟩⟩
theorem chunk_stopsC (F : Fence) (n : Nat) (hf : F.fn 36) (hro : F.round = none) (hn : 1 ≤ n) (Bs Bn : Nat) (A : Option Addr) (N c ch q : Nat) (hN : N = q * ch) (h1 : 1 ≤ ch) (hc : N ≤ c) (hNb : N ≤ 1000000000) (w : World)
    (hBs : w.cell? ⟨Bs, 0, none⟩ = some (.slice A N c)) (hBn : w.cell? ⟨Bn, 0, none⟩ = some (.int .i64 ch)) (hs : Bs < w.heap.size) (hnn : Bn < w.heap.size) :
    SeqStopsK F n Tryd.prog 36 #[.pointer (some ⟨Bs, 0, none⟩), .pointer (some ⟨Bn, 0, none⟩)] (fun x : Fin q => #[chunkV A ch x.val]) (CellsK Bs Bn) (fun ys => ys = List.finRange q) (fun pre => ∃ k, k ≤ q ∧ pre = (List.finRange q).take k) q w := fun l J Jx W hW hJ _ hY h0 =>
  chunk1_cells F n hf hro hn l Bs Bn A N c ch q hN h1 hc hNb J Jx (fun s W' m hs => hJ s W' (W'.drewN m) none hs ⟨rfl, rfl, rfl, Nat.le_refl _, fun _ _ _ => rfl⟩ (fun r e => by cases e)) hY W ((hW.cell (p := ⟨Bs, 0, none⟩) hs).trans hBs) ((hW.cell (p := ⟨Bn, 0, none⟩) hnn).trans hBn) h0
end Go.Proofs.YtjbedcgacnnanaaDoor
