/-
  Matrices: within, May, made and its cells, walked.
-/
import Derived.Test.YtbokbndphpdgoaaGfa
import Derived.Test.YtbokbndphpdgoaaGfu
import Derived.Test.YtbokbndphpdgoaaMem
import Derived.Test.YtbokbndphpdgoaaApp
import Derived.Deep.QuietTactic
import Derived.BigQuiet
import Derived.Deep.RegionHeld3
import Derived.Deep.RegionLaw
import Derived.StillTailTactics
namespace Go.Proofs.Ytbokbndphpdgoaa
set_option linter.unusedSimpArgs false
set_option linter.unusedVariables false
open Go.RowKit

namespace Matp
/-- within: may a number of rows be? -/
def wi (n : Int) : Bool := decide (0 ≤ n ∧ n ≤ 255)
/-- may a matrix be? (its cells' number n) -/
def may (r c : Int) (n : Nat) : Bool := decide ((0 ≤ r ∧ r ≤ 255) ∧ (0 ≤ c ∧ c ≤ 255) ∧ (n : Int) = r * c)
end Matp

theorem within_any (x : Int) (w : World) : Calls Try.prog 33 #[.int .i64 x] w fun e w' => e = .returned (.bool (Matp.wi x)) ∧ w = w' := by
  unfold Matp.wi
  by_cases h1 : 0 ≤ x
  · by_cases h2 : x ≤ 255
    · go_enter Try.func33, Try.ntmps33
      go_wp2_with fail
      go_ret
      exact ⟨ret_bool (by simp [h1, h2]), rfl⟩
    · have h2' : 255 < x := by omega
      go_enter Try.func33, Try.ntmps33
      go_wp2_with fail
      go_ret
      exact ⟨ret_bool (by simp; omega), rfl⟩
  · have h1' : x < 0 := by omega
    go_enter Try.func33, Try.ntmps33
    go_wp2_with fail
    go_ret
    exact ⟨ret_bool (by simp; omega), rfl⟩

theorem info_u8 : (Try.prog.info? 5).map (fun i => (i.zero, i.size, i.bytes)) = some (some (.int .u8 0), 1, 1) := by kernel_rfl
theorem info_m : (Try.prog.info? 24).map (fun i => (i.zero, i.size)) = some (some (.agg #[.int .i64 0, .int .i64 0, .slice none 0 0]), 3) := by kernel_rfl
theorem info_ms : (Try.prog.info? 24).map (·.size) = some 3 := by kernel_rfl
/-- a matrix' cells in memory -/
def mC (r c : Int) (v : Value) : Array Value := #[.int .i64 r, .int .i64 c, v]
theorem mC_one (r c : Int) (A : Option Addr) (n k : Nat) : (mC r c (.slice A n k)).all (·.oneCell') = true := by simp [mC, Value.oneCell']

theorem lt_of_heap {w : World} {k : Nat} {o : Obj} (h : w.heap[k]? = some o) : k < w.heap.size := by
  rcases Nat.lt_or_ge k w.heap.size with hlt | hge
  · exact hlt
  · rw [Array.getElem?_eq_none hge] at h; cases h
theorem own_row {w : World} {base n c size : Nat} {A : Option Addr} {e : TypeId} {xs : List Value} (h : w.ownsRow base e size (.slice A n c) n xs) : ∀ g, A.map (·.block) = some g → ∃ cs fr, w.heap[g]? = some (.cells cs e fr) := by
  intro g hg
  rcases h.2 with ⟨h0, _⟩ | ⟨g', _, cur, hv, _, hc, _⟩
  · injection h0 with h0; rw [h0] at hg; cases hg
  · injection hv with hv
    rw [hv] at hg
    injection hg with hg
    subst hg
    exact ⟨cur, (0, 0), hc⟩
theorem ownsRow_block {w w' : World} {base n c size : Nat} {A : Option Addr} {e : TypeId} {xs : List Value} (h : w.ownsRow base e size (.slice A n c) n xs) (hb : ∀ a, A = some a → w'.heap[a.block]? = w.heap[a.block]?) : w'.ownsRow base e size (.slice A n c) n xs := by
  refine ⟨h.1, h.2.imp id fun ⟨g, cap, cur, hv, hg, hc, r⟩ => ⟨g, cap, cur, hv, hg, ?_, r⟩⟩
  injection hv with hv
  exact (hb _ hv).trans hc
theorem own_belowL {w w' : World} {base n c size : Nat} {e : TypeId} {A : Option Addr} {xs : List Value} (h : w.ownsRow base e size (.slice A n c) n xs) (hk : Below w.heap.size w w') : w'.ownsRow base e size (.slice A n c) n xs := by
  refine ownsRow_block h fun a ha => hk.block _ ?_
  obtain ⟨cs, fr, hc⟩ := own_row h a.block (by rw [ha]; rfl)
  exact lt_of_heap hc
/-- a matrix' block stands while its row of bytes grows -/
theorem blk_grown {w w3 : World} {base n c g8 : Nat} {A : Option Addr} {xs : List Value} {cs : Array Value} (hb : Blk w g8 24 cs) (h : w.ownsRow base 5 1 (.slice A n c) n xs) (hg : w.grownBy w3 (A.map (·.block))) : Blk w3 g8 24 cs := by
  refine hb.grown hg fun e => ?_
  obtain ⟨cs', fr, hc⟩ := own_row h g8 e.symm
  have hb' : w.heap[g8]? = some (.cells cs 24) := hb
  rw [hb'] at hc
  injection hc with hc
  injection hc with _ hc
  exact absurd hc (by decide)
/-- a store into a matrix' block leaves its row of bytes -/
theorem own_setM {w : World} {base n c g8 j : Nat} {A : Option Addr} {xs : List Value} {cs : Array Value} (h : w.ownsRow base 5 1 (.slice A n c) n xs) (hb : Blk w g8 24 cs) (u : Value) : (w.setCell ⟨g8, j, none⟩ u).ownsRow base 5 1 (.slice A n c) n xs := by
  refine ownsRow_block h fun a ha => Below.heap_setCell w ⟨g8, j, none⟩ u a.block ?_
  intro e
  obtain ⟨cs', fr, hc⟩ := own_row h a.block (by rw [ha]; rfl)
  have hb' : w.heap[g8]? = some (.cells cs 24) := hb
  have e' : a.block = g8 := e
  rw [e', hb'] at hc
  injection hc with hc
  injection hc with _ hc
  exact absurd hc (by decide)

theorem own_setRowM {w : World} {base n c g8 : Nat} {A : Option Addr} {xs : List Value} {cs : Array Value} (h : w.ownsRow base 5 1 (.slice A n c) n xs) (hb : Blk w g8 24 cs) (ds : Array Value) : (w.setRow g8 ds).ownsRow base 5 1 (.slice A n c) n xs := by
  refine ownsRow_block h fun a ha => setRow_other w g8 a.block ds ?_
  intro e
  obtain ⟨cs', fr, hc⟩ := own_row h a.block (by rw [ha]; rfl)
  have hb' : w.heap[g8]? = some (.cells cs 24) := hb
  rw [e, hb'] at hc
  injection hc with hc
  injection hc with _ hc
  exact absurd hc (by decide)
/-- the first n cells that a function tells, row by row -/
def cellsTo (cols : Nat) (cell : Nat → Nat → UInt8) (n : Nat) : List UInt8 := (List.range n).map fun t => cell (t / cols) (t % cols)
theorem cellsTo_len (cols : Nat) (cell : Nat → Nat → UInt8) (n : Nat) : (cellsTo cols cell n).length = n := by simp [cellsTo]
theorem cellsTo_step (cols : Nat) (cell : Nat → Nat → UInt8) (i j : Nat) (hj : j < cols) : cellsTo cols cell (i * cols + j + 1) = cellsTo cols cell (i * cols + j) ++ [cell i j] := by
  unfold cellsTo
  rw [List.range_succ, List.map_append]
  have e1 : (i * cols + j) / cols = i := by
    rw [Nat.mul_comm, Nat.mul_add_div (by omega), Nat.div_eq_of_lt hj, Nat.add_zero]
  have e2 : (i * cols + j) % cols = j := by
    rw [Nat.mul_comm, Nat.mul_add_mod, Nat.mod_eq_of_lt hj]
  simp [e1, e2]
theorem rc_le {r c : Nat} (hr : r ≤ 255) (hc : c ≤ 255) : r * c ≤ 65025 := Nat.mul_le_mul hr hc

set_option maxRecDepth 100000 in
set_option maxHeartbeats 4000000 in
theorem made_one (rows cols : Nat) (cell : Nat → Nat → UInt8) (w : World) (hr : rows ≤ 255) (hc : cols ≤ 255)
    (HF : ∀ (i j : Nat) (W : World), i < rows → j < cols → Below w.heap.size w W → Calls Try.prog 35 #[.int .i64 i, .int .i64 j] W fun e w' => e = .returned (.int .u8 ((cell i j).toNat : Int)) ∧ W = w') :
    Calls Try.prog 34 #[.int .i64 rows, .int .i64 cols, .func (.func 35) #[] #[]] w fun e w' => ∃ A' c', e = .returned (.agg (mC rows cols (.slice A' (rows * cols) c'))) ∧ w'.ownsRow w.heap.size 5 1 (.slice A' (rows * cols) c') (rows * cols) ((cellsTo cols cell (rows * cols)).map B8) ∧ Below w.heap.size w w' := by
  have H := Lib.hid HF
  clear HF
  obtain ⟨i0, hi, hz0, hz1, hz2⟩ := info_parts info_u8
  replace hi := Lib.hid hi; replace hz0 := Lib.hid hz0; replace hz1 := Lib.hid hz1; replace hz2 := Lib.hid hz2
  have hz := (zero_of_info info_m).1
  have hrc := rc_le hr hc
  have hrw : IntKind.i64.wrap ((rows : Int) * (cols : Int)) = ((rows * cols : Nat) : Int) := by rw [← Int.natCast_mul, IntKind.wrap_i64]; omega
  have hrw2 : wrap64 ((rows : Int) * (cols : Int)) = ((rows * cols : Nat) : Int) := by rw [← Int.natCast_mul]; exact IntWalk.wrap64_in _ ⟨by omega, by omega⟩
  go_enter Try.func34, Try.ntmps34
  go_wp2_with (at_make; refine wpList_make_own _ rfl _ _ 22 rfl w.heap.size 5 i0 (.int .u8 0) 1 Try.underlying22 hi.out hz0.out hz1.out .i64 .i64 _ (rows * cols) rfl rfl (Int.natCast_mul rows cols).symm (by rw [hz2.out]; omega) (by unfold maxLen; omega) (by simp) ?_; intro w2 ho2 hg2; have HB2 := Lib.hid (show Below w.heap.size w w2 from ((Below.refl w.heap.size w).alloc (Nat.le_refl _) _).grown hg2 (by simp) (fun k hk => by cases hk)); have Hb2 := Lib.hid (show Blk w2 w.heap.size 24 (mC 0 0 (.slice none 0 0)) from (Blk.new w _ _).grown hg2 (by simp)); replace ho2 := Lib.hid ho2; clear hg2)
  have hgs : w.heap.size < w2.heap.size := Hb2.out.lt
  have ho2' : w2.ownsRow w.heap.size 5 1 (.slice (some ⟨w.heap.size + 1, 0, none⟩) 0 (rows * cols)) 0 [] := by simpa using ho2.out
  have hB3 : Below w.heap.size w (w2.alloc (.cells #[.int .i64 rows, .int .i64 cols, .slice (some ⟨w.heap.size + 1, 0, none⟩) 0 (rows * cols)] 24)) := HB2.out.alloc (Nat.le_of_lt hgs) _
  have hb3 : Blk (w2.alloc (.cells #[.int .i64 rows, .int .i64 cols, .slice (some ⟨w.heap.size + 1, 0, none⟩) 0 (rows * cols)] 24)) w.heap.size 24 (mC 0 0 (.slice none 0 0)) := Hb2.out.alloc _
  have hb7 : Blk (w2.alloc (.cells #[.int .i64 rows, .int .i64 cols, .slice (some ⟨w.heap.size + 1, 0, none⟩) 0 (rows * cols)] 24)) w2.heap.size 24 (mC rows cols (.slice (some ⟨w.heap.size + 1, 0, none⟩) 0 (rows * cols))) := Blk.new _ _ _
  have ho3 := ho2'.alloc (.cells #[.int .i64 rows, .int .i64 cols, .slice (some ⟨w.heap.size + 1, 0, none⟩) 0 (rows * cols)] 24)
  generalize w2.alloc (.cells #[.int .i64 rows, .int .i64 cols, .slice (some ⟨w.heap.size + 1, 0, none⟩) 0 (rows * cols)] 24) = w3 at *
  generalize w2.heap.size = g7 at *
  replace hB3 := Lib.hid hB3; replace hb3 := Lib.hid hb3; replace hb7 := Lib.hid hb7; replace ho3 := Lib.hid ho3
  clear ho2' ho2 HB2 Hb2 hrw hrw2 hz
  go_loopw [18] (fun v18 wr => ∃ (i c' : Nat) (A' : Option Addr), v18 = .int .i64 i ∧ i ≤ rows ∧ Hid (Below w.heap.size w wr) ∧ Hid (Blk wr w.heap.size 24 (mC 0 0 (.slice none 0 0))) ∧ Hid (Blk wr g7 24 (mC rows cols (.slice A' (i * cols) c'))) ∧ Hid (wr.ownsRow w.heap.size 5 1 (.slice A' (i * cols) c') (i * cols) ((cellsTo cols cell (i * cols)).map B8))) (fun v18 _ => rows - (intOf v18).toNat)
  case atStart => exact ⟨0, rows * cols, some ⟨w.heap.size + 1, 0, none⟩, rfl, by omega, hB3, hb3, (by rw [Nat.zero_mul]; exact hb7), (by rw [Nat.zero_mul]; exact ho3)⟩
  case round =>
    obtain ⟨i, c', A', rfl, hir, HB, Hb6, Hb7, HO⟩ := hrel
    by_cases hlt : i < rows
    · have hlt' : (i : Int) < rows := by omega
      go_wp2_with fail
      go_loopw [22] (fun v22 wr => ∃ (j c' : Nat) (A' : Option Addr), v22 = .int .i64 j ∧ j ≤ cols ∧ Hid (Below w.heap.size w wr) ∧ Hid (Blk wr w.heap.size 24 (mC 0 0 (.slice none 0 0))) ∧ Hid (Blk wr g7 24 (mC rows cols (.slice A' (i * cols + j) c'))) ∧ Hid (wr.ownsRow w.heap.size 5 1 (.slice A' (i * cols + j) c') (i * cols + j) ((cellsTo cols cell (i * cols + j)).map B8))) (fun v22 _ => cols - (intOf v22).toNat)
      case atStart => exact ⟨0, c', A', rfl, by omega, HB, Hb6, Hb7, HO⟩
      case round =>
        obtain ⟨j, c', A', rfl, hjc, HB, Hb6, Hb7, HO⟩ := hrel
        by_cases hjl : j < cols
        · have hjl' : (j : Int) < cols := by omega
          have hm : i * cols + j < 65025 := by
            have h1 : (i + 1) * cols ≤ rows * cols := Nat.mul_le_mul_right _ hlt
            rw [Nat.succ_mul] at h1; omega
          have Hstep := Lib.hid (cellsTo_step cols cell i j hjl)
          have hx := (cell i j).toNat_lt
          obtain ⟨m, hme⟩ : ∃ m, m = i * cols + j := ⟨_, rfl⟩
          rw [← hme] at Hb7 HO hm Hstep
          have Hme := Lib.hid hme
          clear hme
          have q2 : wr.cell? ⟨g7, 2, none⟩ = some (.slice A' m c') := Hb7.out.cell 2
          have hgw : w.heap.size ≤ wr.heap.size := HB.out.size
          have KEEP : Hid (∀ W, Below wr.heap.size wr W → W.cell? ⟨g7, 2, none⟩ = some (.slice A' m c') ∧ Below w.heap.size w W) := fun W hW => ⟨(Hb7.out.below hW Hb7.out.lt).cell 2, HB.out.trans (hW.mono HB.out.size)⟩
          have HX : Hid (B8 (cell i j) = .int .u8 (((cell i j).toNat : Nat) : Int)) := rfl
          have HC : Hid (∀ W, Below w.heap.size w W → Calls Try.prog 35 #[.int .i64 i, .int .i64 j] W fun e w' => e = .returned (.int .u8 ((cell i j).toNat : Int)) ∧ W = w') := fun W hW => H.out i j W hlt hjl hW
          generalize hxe : cell i j = x at *
          clear hxe
          generalize x.toNat = xn at *
          have hb1 : m + 1 ≤ maxLen := by unfold maxLen; omega
          have hb2 : (m + 1) * 1 ≤ 140737488355328 := by omega
          go_wp2_with fail
          have q2d : wr.drew.cell? ⟨g7, 2, none⟩ = some (.slice A' m c') := q2
          have q2a : ∀ o, (wr.alloc o).cell? ⟨g7, 2, none⟩ = some (.slice A' m c') := fun o => (KEEP.out _ ((Below.refl _ _).alloc (Nat.le_refl _) o)).1
          have hg7 : w.heap.size ≤ g7 := Nat.le_of_lt hgs
          go_region_law
            (first
              | (go_simp; go_at_call 35; ((with_reducible refine (HC.out _ (by first | exact HB.out | exact HB.out.drew)).mono ?_); rintro e w' ⟨rfl, rfl⟩))
              | (refine step_append_any _ (by rfl) _ _ _ (by rfl) w.heap.size 5 i0 (.int .u8 0) 1 1 Try.underlying22 hi.out hz0.out hz1.out hz2.out rfl (by omega) A' m c' _ (by rfl) ((HO.out.alloc (.cells #[.int .u8 (xn : Int)] 5)).drew) (wr.heap.size + 1) _ 1 1 _ (by rfl) (reads_one wr _ _) (one_one rfl) hb1 hb2 (show w.heap.size ≤ (wr.alloc (.cells #[.int .u8 (xn : Int)] 5)).heap.size from Nat.le_trans hgw (by simp)) ?_
                 intro A1 c1 w4 ho4 hg4 _hs4
                 have hb4 : Blk w4 g7 24 (mC rows cols (.slice A' m c')) := blk_grown (Hb7.out.alloc _).drew ((HO.out.alloc (.cells #[.int .u8 (xn : Int)] 5)).drew) hg4
                 have hb6 : Blk w4 w.heap.size 24 (mC 0 0 (.slice none 0 0)) := blk_grown (Hb6.out.alloc _).drew ((HO.out.alloc (.cells #[.int .u8 (xn : Int)] 5)).drew) hg4
                 have hB4 : Below w.heap.size w w4 := below_app ((HB.out.alloc hgw (.cells #[.int .u8 (xn : Int)] 5)).drew) hg4 ((HO.out.alloc (.cells #[.int .u8 (xn : Int)] 5)).drew) (show w.heap.size ≤ (wr.alloc (.cells #[.int .u8 (xn : Int)] 5)).heap.size from Nat.le_trans hgw (by simp))
                 have z2 : w4.cell? ⟨g7, 2, none⟩ = some (.slice A' m c') := hb4.cell 2
                 have zf : w4.frozen? ⟨g7, 2, none⟩ = false := hb4.frozen 2
                 replace ho4 := Lib.hid ho4; replace hb4 := Lib.hid hb4; replace hb6 := Lib.hid hb6; clear hg4 _hs4))
          all_goals
            go_wp2_with fail
            go_roundw
            case rel =>
              refine ⟨j + 1, c1, A1, by go_num, by omega, hB4.setCell (p := ⟨g7, 2, none⟩) hg7 _, hb6.out.far (p := ⟨g7, 2, none⟩) (Nat.ne_of_lt hgs) _, ?_, ?_⟩
              · rw [show i * cols + (j + 1) = m + 1 by rw [Hme.out]; omega]
                exact hb4.out.set_ 2 (.slice A1 (m + 1) c1)
              · rw [show i * cols + (j + 1) = m + 1 by rw [Hme.out]; omega, Hstep.out, List.map_append]
                have h := own_setM (j := 2) ho4.out hb4.out (.slice A1 (m + 1) c1)
                rw [← HX.out] at h
                exact h
            case measure => simp [intOf]; omega
        · have hjc2 : j = cols := by omega
          subst hjc2
          go_wp2_with fail
          go_roundw
          case rel => exact ⟨i + 1, c', A', by go_num, by omega, HB, Hb6, (by rw [Nat.succ_mul]; exact Hb7), (by rw [Nat.succ_mul]; exact HO)⟩
          case measure => simp [intOf]; omega
    · have hir2 : i = rows := by omega
      subst hir2
      go_wp2_with (first
        | (refine wpList_load_row rfl 24 _ rfl g7 rfl 24 (mC i cols (.slice A' (i * cols) c')) (0, 0) _ Hb7.out Try.underlying24 rfl info_ms ?_)
        | (refine wpList_store_row rfl 24 _ _ rfl w.heap.size (mC i cols (.slice A' (i * cols) c')) rfl rfl 24 (mC 0 0 (.slice none 0 0)) Hb6.out info_ms rfl (mC_one _ _ _ _ _) ?_))
      exact bodyPost_ret (results_cell_row rfl _ _ w.heap.size 24 (mC i cols (.slice A' (i * cols) c')) (0, 0) _ rfl (Hb6.out.row _) Try.underlying24 rfl info_ms) rfl ⟨A', c', rfl, own_setRowM HO.out Hb6.out _, below_row HB.out (Nat.le_refl _) _⟩

end Go.Proofs.Ytbokbndphpdgoaa
