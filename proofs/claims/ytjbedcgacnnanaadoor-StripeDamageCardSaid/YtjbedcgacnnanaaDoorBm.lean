/-
  Texts put together: Matw Matx Maty.
-/
import Derived.Test.YtjbedcgacnnanaaDoorBa
import Derived.Deep.QuietTactic
import Derived.BigQuiet
import Derived.Deep.RegionHeld3
import Derived.Deep.RegionLaw
import Derived.StillTailTactics
namespace Go.Proofs.YtjbedcgacnnanaaDoor
set_option linter.unusedSimpArgs false
set_option linter.unusedVariables false
open Go.RowKit

namespace Matp
/-- within: may a number of rows be? -/
def wi (n : Int) : Bool := decide (0 ≤ n ∧ n ≤ 255)
/-- may a matrix be? (its cells' number n) -/
def may (r c : Int) (n : Nat) : Bool := decide ((0 ≤ r ∧ r ≤ 255) ∧ (0 ≤ c ∧ c ≤ 255) ∧ (n : Int) = r * c)
end Matp

theorem within_any (x : Int) (w : World) : Calls Tryd.prog 55 #[.int .i64 x] w fun e w' => e = .returned (.bool (Matp.wi x)) ∧ w = w' := by
  unfold Matp.wi
  by_cases h1 : 0 ≤ x
  · by_cases h2 : x ≤ 255
    · go_enter Tryd.func55, Tryd.ntmps55
      go_wp2_with fail
      go_ret
      exact ⟨ret_bool (by simp [h1, h2]), rfl⟩
    · have h2' : 255 < x := by omega
      go_enter Tryd.func55, Tryd.ntmps55
      go_wp2_with fail
      go_ret
      exact ⟨ret_bool (by simp; omega), rfl⟩
  · have h1' : x < 0 := by omega
    go_enter Tryd.func55, Tryd.ntmps55
    go_wp2_with fail
    go_ret
    exact ⟨ret_bool (by simp; omega), rfl⟩

theorem info_u8 : (Tryd.prog.info? 5).map (fun i => (i.zero, i.size, i.bytes)) = some (some (.int .u8 0), 1, 1) := by kernel_rfl
theorem info_m : (Tryd.prog.info? 75).map (fun i => (i.zero, i.size)) = some (some (.agg #[.int .i64 0, .int .i64 0, .slice none 0 0]), 3) := by kernel_rfl
theorem info_ms : (Tryd.prog.info? 75).map (·.size) = some 3 := by kernel_rfl
/-- a matrix' cells in memory -/
def mC (r c : Int) (v : Value) : Array Value := #[.int .i64 r, .int .i64 c, v]
theorem mC_one (r c : Int) (A : Option Addr) (n k : Nat) : (mC r c (.slice A n k)).all (·.oneCell') = true := by simp [mC, Value.oneCell']

theorem lt_of_heap {w : World} {k : Nat} {o : Obj} (h : w.heap[k]? = some o) : k < w.heap.size := by
  rcases Nat.lt_or_ge k w.heap.size with hlt | hge
  · exact hlt
  · rw [Array.getElem?_eq_none hge] at h; cases h
theorem own_row {w : World} {base n c size : Nat} {A : Option Addr} {e : TypeId} {xs : List Value} (h : w.ownsRow base e size (.slice A n c) n xs) : ∀ g, A.map (·.block) = some g → ∃ cs fr, w.heap[g]? = some (.cells cs e fr) := by
  intro g hg
  rcases h.2 with ⟨h0, _⟩ | ⟨g', _, cur, hv, _, hc, _⟩
  · injection h0 with h0; rw [h0] at hg; cases hg
  · injection hv with hv
    rw [hv] at hg
    injection hg with hg
    subst hg
    exact ⟨cur, (0, 0), hc⟩
theorem ownsRow_block {w w' : World} {base n c size : Nat} {A : Option Addr} {e : TypeId} {xs : List Value} (h : w.ownsRow base e size (.slice A n c) n xs) (hb : ∀ a, A = some a → w'.heap[a.block]? = w.heap[a.block]?) : w'.ownsRow base e size (.slice A n c) n xs := by
  refine ⟨h.1, h.2.imp id fun ⟨g, cap, cur, hv, hg, hc, r⟩ => ⟨g, cap, cur, hv, hg, ?_, r⟩⟩
  injection hv with hv
  exact (hb _ hv).trans hc
theorem own_belowL {w w' : World} {base n c size : Nat} {e : TypeId} {A : Option Addr} {xs : List Value} (h : w.ownsRow base e size (.slice A n c) n xs) (hk : Below w.heap.size w w') : w'.ownsRow base e size (.slice A n c) n xs := by
  refine ownsRow_block h fun a ha => hk.block _ ?_
  obtain ⟨cs, fr, hc⟩ := own_row h a.block (by rw [ha]; rfl)
  exact lt_of_heap hc
/-- a matrix' block stands while its row of bytes grows -/
theorem blk_grown {w w3 : World} {base n c g8 : Nat} {A : Option Addr} {xs : List Value} {cs : Array Value} (hb : Blk w g8 75 cs) (h : w.ownsRow base 5 1 (.slice A n c) n xs) (hg : w.grownBy w3 (A.map (·.block))) : Blk w3 g8 75 cs := by
  refine hb.grown hg fun e => ?_
  obtain ⟨cs', fr, hc⟩ := own_row h g8 e.symm
  have hb' : w.heap[g8]? = some (.cells cs 75) := hb
  rw [hb'] at hc
  injection hc with hc
  injection hc with _ hc
  exact absurd hc (by decide)
/-- a store into a matrix' block leaves its row of bytes -/
theorem own_setM {w : World} {base n c g8 j : Nat} {A : Option Addr} {xs : List Value} {cs : Array Value} (h : w.ownsRow base 5 1 (.slice A n c) n xs) (hb : Blk w g8 75 cs) (u : Value) : (w.setCell ⟨g8, j, none⟩ u).ownsRow base 5 1 (.slice A n c) n xs := by
  refine ownsRow_block h fun a ha => Below.heap_setCell w ⟨g8, j, none⟩ u a.block ?_
  intro e
  obtain ⟨cs', fr, hc⟩ := own_row h a.block (by rw [ha]; rfl)
  have hb' : w.heap[g8]? = some (.cells cs 75) := hb
  have e' : a.block = g8 := e
  rw [e', hb'] at hc
  injection hc with hc
  injection hc with _ hc
  exact absurd hc (by decide)

theorem own_setRowM {w : World} {base n c g8 : Nat} {A : Option Addr} {xs : List Value} {cs : Array Value} (h : w.ownsRow base 5 1 (.slice A n c) n xs) (hb : Blk w g8 75 cs) (ds : Array Value) : (w.setRow g8 ds).ownsRow base 5 1 (.slice A n c) n xs := by
  refine ownsRow_block h fun a ha => setRow_other w g8 a.block ds ?_
  intro e
  obtain ⟨cs', fr, hc⟩ := own_row h a.block (by rw [ha]; rfl)
  have hb' : w.heap[g8]? = some (.cells cs 75) := hb
  rw [e, hb'] at hc
  injection hc with hc
  injection hc with _ hc
  exact absurd hc (by decide)
/-- the first n cells that a function tells, row by row -/
def cellsTo (cols : Nat) (cell : Nat → Nat → UInt8) (n : Nat) : List UInt8 := (List.range n).map fun t => cell (t / cols) (t % cols)
theorem cellsTo_len (cols : Nat) (cell : Nat → Nat → UInt8) (n : Nat) : (cellsTo cols cell n).length = n := by simp [cellsTo]
theorem cellsTo_step (cols : Nat) (cell : Nat → Nat → UInt8) (i j : Nat) (hj : j < cols) : cellsTo cols cell (i * cols + j + 1) = cellsTo cols cell (i * cols + j) ++ [cell i j] := by
  unfold cellsTo
  rw [List.range_succ, List.map_append]
  have e1 : (i * cols + j) / cols = i := by
    rw [Nat.mul_comm, Nat.mul_add_div (by omega), Nat.div_eq_of_lt hj, Nat.add_zero]
  have e2 : (i * cols + j) % cols = j := by
    rw [Nat.mul_comm, Nat.mul_add_mod, Nat.mod_eq_of_lt hj]
  simp [e1, e2]
theorem rc_le {r c : Nat} (hr : r ≤ 255) (hc : c ≤ 255) : r * c ≤ 65025 := Nat.mul_le_mul hr hc

set_option maxRecDepth 100000 in
set_option maxHeartbeats 4000000 in
theorem made_one (rows cols : Nat) (cell : Nat → Nat → UInt8) (w : World) (hr : rows ≤ 255) (hc : cols ≤ 255)
    (HF : ∀ (i j : Nat) (W : World), i < rows → j < cols → Below w.heap.size w W → Calls Tryd.prog 83 #[.int .i64 i, .int .i64 j] W fun e w' => e = .returned (.int .u8 ((cell i j).toNat : Int)) ∧ W = w') :
    Calls Tryd.prog 56 #[.int .i64 rows, .int .i64 cols, .func (.func 83) #[] #[]] w fun e w' => ∃ A' c', e = .returned (.agg (mC rows cols (.slice A' (rows * cols) c'))) ∧ w'.ownsRow w.heap.size 5 1 (.slice A' (rows * cols) c') (rows * cols) ((cellsTo cols cell (rows * cols)).map B8) ∧ Below w.heap.size w w' := by
  have H := Lib.hid HF
  clear HF
  obtain ⟨i0, hi, hz0, hz1, hz2⟩ := info_parts info_u8
  replace hi := Lib.hid hi; replace hz0 := Lib.hid hz0; replace hz1 := Lib.hid hz1; replace hz2 := Lib.hid hz2
  have hz := (zero_of_info info_m).1
  have hrc := rc_le hr hc
  have hrw : IntKind.i64.wrap ((rows : Int) * (cols : Int)) = ((rows * cols : Nat) : Int) := by rw [← Int.natCast_mul, IntKind.wrap_i64]; omega
  have hrw2 : wrap64 ((rows : Int) * (cols : Int)) = ((rows * cols : Nat) : Int) := by rw [← Int.natCast_mul]; exact IntWalk.wrap64_in _ ⟨by omega, by omega⟩
  go_enter Tryd.func56, Tryd.ntmps56
  go_wp2_with (at_make; refine wpList_make_own _ rfl _ _ 27 rfl w.heap.size 5 i0 (.int .u8 0) 1 Tryd.underlying27 hi.out hz0.out hz1.out .i64 .i64 _ (rows * cols) rfl rfl (Int.natCast_mul rows cols).symm (by rw [hz2.out]; omega) (by unfold maxLen; omega) (by simp) ?_; intro w2 ho2 hg2; have HB2 := Lib.hid (show Below w.heap.size w w2 from ((Below.refl w.heap.size w).alloc (Nat.le_refl _) _).grown hg2 (by simp) (fun k hk => by cases hk)); have Hb2 := Lib.hid (show Blk w2 w.heap.size 75 (mC 0 0 (.slice none 0 0)) from (Blk.new w _ _).grown hg2 (by simp)); replace ho2 := Lib.hid ho2; clear hg2)
  have hgs : w.heap.size < w2.heap.size := Hb2.out.lt
  have ho2' : w2.ownsRow w.heap.size 5 1 (.slice (some ⟨w.heap.size + 1, 0, none⟩) 0 (rows * cols)) 0 [] := by simpa using ho2.out
  have hB3 : Below w.heap.size w (w2.alloc (.cells #[.int .i64 rows, .int .i64 cols, .slice (some ⟨w.heap.size + 1, 0, none⟩) 0 (rows * cols)] 75)) := HB2.out.alloc (Nat.le_of_lt hgs) _
  have hb3 : Blk (w2.alloc (.cells #[.int .i64 rows, .int .i64 cols, .slice (some ⟨w.heap.size + 1, 0, none⟩) 0 (rows * cols)] 75)) w.heap.size 75 (mC 0 0 (.slice none 0 0)) := Hb2.out.alloc _
  have hb7 : Blk (w2.alloc (.cells #[.int .i64 rows, .int .i64 cols, .slice (some ⟨w.heap.size + 1, 0, none⟩) 0 (rows * cols)] 75)) w2.heap.size 75 (mC rows cols (.slice (some ⟨w.heap.size + 1, 0, none⟩) 0 (rows * cols))) := Blk.new _ _ _
  have ho3 := ho2'.alloc (.cells #[.int .i64 rows, .int .i64 cols, .slice (some ⟨w.heap.size + 1, 0, none⟩) 0 (rows * cols)] 75)
  generalize w2.alloc (.cells #[.int .i64 rows, .int .i64 cols, .slice (some ⟨w.heap.size + 1, 0, none⟩) 0 (rows * cols)] 75) = w3 at *
  generalize w2.heap.size = g7 at *
  replace hB3 := Lib.hid hB3; replace hb3 := Lib.hid hb3; replace hb7 := Lib.hid hb7; replace ho3 := Lib.hid ho3
  clear ho2' ho2 HB2 Hb2 hrw hrw2 hz
  go_loopw [18] (fun v18 wr => ∃ (i c' : Nat) (A' : Option Addr), v18 = .int .i64 i ∧ i ≤ rows ∧ Hid (Below w.heap.size w wr) ∧ Hid (Blk wr w.heap.size 75 (mC 0 0 (.slice none 0 0))) ∧ Hid (Blk wr g7 75 (mC rows cols (.slice A' (i * cols) c'))) ∧ Hid (wr.ownsRow w.heap.size 5 1 (.slice A' (i * cols) c') (i * cols) ((cellsTo cols cell (i * cols)).map B8))) (fun v18 _ => rows - (intOf v18).toNat)
  case atStart => exact ⟨0, rows * cols, some ⟨w.heap.size + 1, 0, none⟩, rfl, by omega, hB3, hb3, (by rw [Nat.zero_mul]; exact hb7), (by rw [Nat.zero_mul]; exact ho3)⟩
  case round =>
    obtain ⟨i, c', A', rfl, hir, HB, Hb6, Hb7, HO⟩ := hrel
    by_cases hlt : i < rows
    · have hlt' : (i : Int) < rows := by omega
      go_wp2_with fail
      go_loopw [22] (fun v22 wr => ∃ (j c' : Nat) (A' : Option Addr), v22 = .int .i64 j ∧ j ≤ cols ∧ Hid (Below w.heap.size w wr) ∧ Hid (Blk wr w.heap.size 75 (mC 0 0 (.slice none 0 0))) ∧ Hid (Blk wr g7 75 (mC rows cols (.slice A' (i * cols + j) c'))) ∧ Hid (wr.ownsRow w.heap.size 5 1 (.slice A' (i * cols + j) c') (i * cols + j) ((cellsTo cols cell (i * cols + j)).map B8))) (fun v22 _ => cols - (intOf v22).toNat)
      case atStart => exact ⟨0, c', A', rfl, by omega, HB, Hb6, Hb7, HO⟩
      case round =>
        obtain ⟨j, c', A', rfl, hjc, HB, Hb6, Hb7, HO⟩ := hrel
        by_cases hjl : j < cols
        · have hjl' : (j : Int) < cols := by omega
          have hm : i * cols + j < 65025 := by
            have h1 : (i + 1) * cols ≤ rows * cols := Nat.mul_le_mul_right _ hlt
            rw [Nat.succ_mul] at h1; omega
          have Hstep := Lib.hid (cellsTo_step cols cell i j hjl)
          have hx := (cell i j).toNat_lt
          obtain ⟨m, hme⟩ : ∃ m, m = i * cols + j := ⟨_, rfl⟩
          rw [← hme] at Hb7 HO hm Hstep
          have Hme := Lib.hid hme
          clear hme
          have q2 : wr.cell? ⟨g7, 2, none⟩ = some (.slice A' m c') := Hb7.out.cell 2
          have hgw : w.heap.size ≤ wr.heap.size := HB.out.size
          have KEEP : Hid (∀ W, Below wr.heap.size wr W → W.cell? ⟨g7, 2, none⟩ = some (.slice A' m c') ∧ Below w.heap.size w W) := fun W hW => ⟨(Hb7.out.below hW Hb7.out.lt).cell 2, HB.out.trans (hW.mono HB.out.size)⟩
          have HX : Hid (B8 (cell i j) = .int .u8 (((cell i j).toNat : Nat) : Int)) := rfl
          have HC : Hid (∀ W, Below w.heap.size w W → Calls Tryd.prog 83 #[.int .i64 i, .int .i64 j] W fun e w' => e = .returned (.int .u8 ((cell i j).toNat : Int)) ∧ W = w') := fun W hW => H.out i j W hlt hjl hW
          generalize hxe : cell i j = x at *
          clear hxe
          generalize x.toNat = xn at *
          have hb1 : m + 1 ≤ maxLen := by unfold maxLen; omega
          have hb2 : (m + 1) * 1 ≤ 140737488355328 := by omega
          go_wp2_with fail
          have q2d : wr.drew.cell? ⟨g7, 2, none⟩ = some (.slice A' m c') := q2
          have q2a : ∀ o, (wr.alloc o).cell? ⟨g7, 2, none⟩ = some (.slice A' m c') := fun o => (KEEP.out _ ((Below.refl _ _).alloc (Nat.le_refl _) o)).1
          have hg7 : w.heap.size ≤ g7 := Nat.le_of_lt hgs
          go_region_law
            (first
              | (go_simp; go_at_call 83; ((with_reducible refine (HC.out _ (by first | exact HB.out | exact HB.out.drew)).mono ?_); rintro e w' ⟨rfl, rfl⟩))
              | (refine step_append_any _ (by rfl) _ _ _ (by rfl) w.heap.size 5 i0 (.int .u8 0) 1 1 Tryd.underlying27 hi.out hz0.out hz1.out hz2.out rfl (by omega) A' m c' _ (by rfl) ((HO.out.alloc (.cells #[.int .u8 (xn : Int)] 5)).drew) (wr.heap.size + 1) _ 1 1 _ (by rfl) (reads_one wr _ _) (one_one rfl) hb1 hb2 (show w.heap.size ≤ (wr.alloc (.cells #[.int .u8 (xn : Int)] 5)).heap.size from Nat.le_trans hgw (by simp)) ?_
                 intro A1 c1 w4 ho4 hg4 _hs4
                 have hb4 : Blk w4 g7 75 (mC rows cols (.slice A' m c')) := blk_grown (Hb7.out.alloc _).drew ((HO.out.alloc (.cells #[.int .u8 (xn : Int)] 5)).drew) hg4
                 have hb6 : Blk w4 w.heap.size 75 (mC 0 0 (.slice none 0 0)) := blk_grown (Hb6.out.alloc _).drew ((HO.out.alloc (.cells #[.int .u8 (xn : Int)] 5)).drew) hg4
                 have hB4 : Below w.heap.size w w4 := below_app ((HB.out.alloc hgw (.cells #[.int .u8 (xn : Int)] 5)).drew) hg4 ((HO.out.alloc (.cells #[.int .u8 (xn : Int)] 5)).drew) (show w.heap.size ≤ (wr.alloc (.cells #[.int .u8 (xn : Int)] 5)).heap.size from Nat.le_trans hgw (by simp))
                 have z2 : w4.cell? ⟨g7, 2, none⟩ = some (.slice A' m c') := hb4.cell 2
                 have zf : w4.frozen? ⟨g7, 2, none⟩ = false := hb4.frozen 2
                 replace ho4 := Lib.hid ho4; replace hb4 := Lib.hid hb4; replace hb6 := Lib.hid hb6; clear hg4 _hs4))
          all_goals
            go_wp2_with fail
            go_roundw
            case rel =>
              refine ⟨j + 1, c1, A1, by go_num, by omega, hB4.setCell (p := ⟨g7, 2, none⟩) hg7 _, hb6.out.far (p := ⟨g7, 2, none⟩) (Nat.ne_of_lt hgs) _, ?_, ?_⟩
              · rw [show i * cols + (j + 1) = m + 1 by rw [Hme.out]; omega]
                exact hb4.out.set_ 2 (.slice A1 (m + 1) c1)
              · rw [show i * cols + (j + 1) = m + 1 by rw [Hme.out]; omega, Hstep.out, List.map_append]
                have h := own_setM (j := 2) ho4.out hb4.out (.slice A1 (m + 1) c1)
                rw [← HX.out] at h
                exact h
            case measure => simp [intOf]; omega
        · have hjc2 : j = cols := by omega
          subst hjc2
          go_wp2_with fail
          go_roundw
          case rel => exact ⟨i + 1, c', A', by go_num, by omega, HB, Hb6, (by rw [Nat.succ_mul]; exact Hb7), (by rw [Nat.succ_mul]; exact HO)⟩
          case measure => simp [intOf]; omega
    · have hir2 : i = rows := by omega
      subst hir2
      go_wp2_with (first
        | (refine wpList_load_row rfl 75 _ rfl g7 rfl 75 (mC i cols (.slice A' (i * cols) c')) (0, 0) _ Hb7.out Tryd.underlying75 rfl info_ms ?_)
        | (refine wpList_store_row rfl 75 _ _ rfl w.heap.size (mC i cols (.slice A' (i * cols) c')) rfl rfl 75 (mC 0 0 (.slice none 0 0)) Hb6.out info_ms rfl (mC_one _ _ _ _ _) ?_))
      exact bodyPost_ret (results_cell_row rfl _ _ w.heap.size 75 (mC i cols (.slice A' (i * cols) c')) (0, 0) _ rfl (Hb6.out.row _) Tryd.underlying75 rfl info_ms) rfl ⟨A', c', rfl, own_setRowM HO.out Hb6.out _, below_row HB.out (Nat.le_refl _) _⟩

end Go.Proofs.YtjbedcgacnnanaaDoor

namespace Go.Proofs.YtjbedcgacnnanaaDoor
set_option linter.unusedSimpArgs false
set_option linter.unusedVariables false
open Go.RowKit

set_option maxRecDepth 100000 in
set_option maxHeartbeats 4000000 in
theorem made_cauchy (rows cols p : Nat) (cell : Nat → Nat → UInt8) (w : World) (hr : rows ≤ 255) (hc : cols ≤ 255)
    (HF : ∀ (i j : Nat) (W : World), i < rows → j < cols → Below w.heap.size w W → Calls Tryd.prog 57 #[.int .i64 i, .int .i64 j, .pointer (some ⟨p, 0, none⟩)] W fun e w' => e = .returned (.int .u8 ((cell i j).toNat : Int)) ∧ W = w') :
    Calls Tryd.prog 56 #[.int .i64 rows, .int .i64 cols, .func (.func 57) #[] #[.pointer (some ⟨p, 0, none⟩)]] w fun e w' => ∃ A' c', e = .returned (.agg (mC rows cols (.slice A' (rows * cols) c'))) ∧ w'.ownsRow w.heap.size 5 1 (.slice A' (rows * cols) c') (rows * cols) ((cellsTo cols cell (rows * cols)).map B8) ∧ Below w.heap.size w w' := by
  have H := Lib.hid HF
  clear HF
  obtain ⟨i0, hi, hz0, hz1, hz2⟩ := info_parts info_u8
  replace hi := Lib.hid hi; replace hz0 := Lib.hid hz0; replace hz1 := Lib.hid hz1; replace hz2 := Lib.hid hz2
  have hz := (zero_of_info info_m).1
  have hrc := rc_le hr hc
  have hrw : IntKind.i64.wrap ((rows : Int) * (cols : Int)) = ((rows * cols : Nat) : Int) := by rw [← Int.natCast_mul, IntKind.wrap_i64]; omega
  have hrw2 : wrap64 ((rows : Int) * (cols : Int)) = ((rows * cols : Nat) : Int) := by rw [← Int.natCast_mul]; exact IntWalk.wrap64_in _ ⟨by omega, by omega⟩
  go_enter Tryd.func56, Tryd.ntmps56
  go_wp2_with (at_make; refine wpList_make_own _ rfl _ _ 27 rfl w.heap.size 5 i0 (.int .u8 0) 1 Tryd.underlying27 hi.out hz0.out hz1.out .i64 .i64 _ (rows * cols) rfl rfl (Int.natCast_mul rows cols).symm (by rw [hz2.out]; omega) (by unfold maxLen; omega) (by simp) ?_; intro w2 ho2 hg2; have HB2 := Lib.hid (show Below w.heap.size w w2 from ((Below.refl w.heap.size w).alloc (Nat.le_refl _) _).grown hg2 (by simp) (fun k hk => by cases hk)); have Hb2 := Lib.hid (show Blk w2 w.heap.size 75 (mC 0 0 (.slice none 0 0)) from (Blk.new w _ _).grown hg2 (by simp)); replace ho2 := Lib.hid ho2; clear hg2)
  have hgs : w.heap.size < w2.heap.size := Hb2.out.lt
  have ho2' : w2.ownsRow w.heap.size 5 1 (.slice (some ⟨w.heap.size + 1, 0, none⟩) 0 (rows * cols)) 0 [] := by simpa using ho2.out
  have hB3 : Below w.heap.size w (w2.alloc (.cells #[.int .i64 rows, .int .i64 cols, .slice (some ⟨w.heap.size + 1, 0, none⟩) 0 (rows * cols)] 75)) := HB2.out.alloc (Nat.le_of_lt hgs) _
  have hb3 : Blk (w2.alloc (.cells #[.int .i64 rows, .int .i64 cols, .slice (some ⟨w.heap.size + 1, 0, none⟩) 0 (rows * cols)] 75)) w.heap.size 75 (mC 0 0 (.slice none 0 0)) := Hb2.out.alloc _
  have hb7 : Blk (w2.alloc (.cells #[.int .i64 rows, .int .i64 cols, .slice (some ⟨w.heap.size + 1, 0, none⟩) 0 (rows * cols)] 75)) w2.heap.size 75 (mC rows cols (.slice (some ⟨w.heap.size + 1, 0, none⟩) 0 (rows * cols))) := Blk.new _ _ _
  have ho3 := ho2'.alloc (.cells #[.int .i64 rows, .int .i64 cols, .slice (some ⟨w.heap.size + 1, 0, none⟩) 0 (rows * cols)] 75)
  generalize w2.alloc (.cells #[.int .i64 rows, .int .i64 cols, .slice (some ⟨w.heap.size + 1, 0, none⟩) 0 (rows * cols)] 75) = w3 at *
  generalize w2.heap.size = g7 at *
  replace hB3 := Lib.hid hB3; replace hb3 := Lib.hid hb3; replace hb7 := Lib.hid hb7; replace ho3 := Lib.hid ho3
  clear ho2' ho2 HB2 Hb2 hrw hrw2 hz
  go_loopw [18] (fun v18 wr => ∃ (i c' : Nat) (A' : Option Addr), v18 = .int .i64 i ∧ i ≤ rows ∧ Hid (Below w.heap.size w wr) ∧ Hid (Blk wr w.heap.size 75 (mC 0 0 (.slice none 0 0))) ∧ Hid (Blk wr g7 75 (mC rows cols (.slice A' (i * cols) c'))) ∧ Hid (wr.ownsRow w.heap.size 5 1 (.slice A' (i * cols) c') (i * cols) ((cellsTo cols cell (i * cols)).map B8))) (fun v18 _ => rows - (intOf v18).toNat)
  case atStart => exact ⟨0, rows * cols, some ⟨w.heap.size + 1, 0, none⟩, rfl, by omega, hB3, hb3, (by rw [Nat.zero_mul]; exact hb7), (by rw [Nat.zero_mul]; exact ho3)⟩
  case round =>
    obtain ⟨i, c', A', rfl, hir, HB, Hb6, Hb7, HO⟩ := hrel
    by_cases hlt : i < rows
    · have hlt' : (i : Int) < rows := by omega
      go_wp2_with fail
      go_loopw [22] (fun v22 wr => ∃ (j c' : Nat) (A' : Option Addr), v22 = .int .i64 j ∧ j ≤ cols ∧ Hid (Below w.heap.size w wr) ∧ Hid (Blk wr w.heap.size 75 (mC 0 0 (.slice none 0 0))) ∧ Hid (Blk wr g7 75 (mC rows cols (.slice A' (i * cols + j) c'))) ∧ Hid (wr.ownsRow w.heap.size 5 1 (.slice A' (i * cols + j) c') (i * cols + j) ((cellsTo cols cell (i * cols + j)).map B8))) (fun v22 _ => cols - (intOf v22).toNat)
      case atStart => exact ⟨0, c', A', rfl, by omega, HB, Hb6, Hb7, HO⟩
      case round =>
        obtain ⟨j, c', A', rfl, hjc, HB, Hb6, Hb7, HO⟩ := hrel
        by_cases hjl : j < cols
        · have hjl' : (j : Int) < cols := by omega
          have hm : i * cols + j < 65025 := by
            have h1 : (i + 1) * cols ≤ rows * cols := Nat.mul_le_mul_right _ hlt
            rw [Nat.succ_mul] at h1; omega
          have Hstep := Lib.hid (cellsTo_step cols cell i j hjl)
          have hx := (cell i j).toNat_lt
          obtain ⟨m, hme⟩ : ∃ m, m = i * cols + j := ⟨_, rfl⟩
          rw [← hme] at Hb7 HO hm Hstep
          have Hme := Lib.hid hme
          clear hme
          have q2 : wr.cell? ⟨g7, 2, none⟩ = some (.slice A' m c') := Hb7.out.cell 2
          have hgw : w.heap.size ≤ wr.heap.size := HB.out.size
          have KEEP : Hid (∀ W, Below wr.heap.size wr W → W.cell? ⟨g7, 2, none⟩ = some (.slice A' m c') ∧ Below w.heap.size w W) := fun W hW => ⟨(Hb7.out.below hW Hb7.out.lt).cell 2, HB.out.trans (hW.mono HB.out.size)⟩
          have HX : Hid (B8 (cell i j) = .int .u8 (((cell i j).toNat : Nat) : Int)) := rfl
          have HC : Hid (∀ W, Below w.heap.size w W → Calls Tryd.prog 57 #[.int .i64 i, .int .i64 j, .pointer (some ⟨p, 0, none⟩)] W fun e w' => e = .returned (.int .u8 ((cell i j).toNat : Int)) ∧ W = w') := fun W hW => H.out i j W hlt hjl hW
          generalize hxe : cell i j = x at *
          clear hxe
          generalize x.toNat = xn at *
          have hb1 : m + 1 ≤ maxLen := by unfold maxLen; omega
          have hb2 : (m + 1) * 1 ≤ 140737488355328 := by omega
          go_wp2_with fail
          have q2d : wr.drew.cell? ⟨g7, 2, none⟩ = some (.slice A' m c') := q2
          have q2a : ∀ o, (wr.alloc o).cell? ⟨g7, 2, none⟩ = some (.slice A' m c') := fun o => (KEEP.out _ ((Below.refl _ _).alloc (Nat.le_refl _) o)).1
          have hg7 : w.heap.size ≤ g7 := Nat.le_of_lt hgs
          go_region_law
            (first
              | (go_simp; go_at_call 57; ((with_reducible refine (HC.out _ (by first | exact HB.out | exact HB.out.drew)).mono ?_); rintro e w' ⟨rfl, rfl⟩))
              | (refine step_append_any _ (by rfl) _ _ _ (by rfl) w.heap.size 5 i0 (.int .u8 0) 1 1 Tryd.underlying27 hi.out hz0.out hz1.out hz2.out rfl (by omega) A' m c' _ (by rfl) ((HO.out.alloc (.cells #[.int .u8 (xn : Int)] 5)).drew) (wr.heap.size + 1) _ 1 1 _ (by rfl) (reads_one wr _ _) (one_one rfl) hb1 hb2 (show w.heap.size ≤ (wr.alloc (.cells #[.int .u8 (xn : Int)] 5)).heap.size from Nat.le_trans hgw (by simp)) ?_
                 intro A1 c1 w4 ho4 hg4 _hs4
                 have hb4 : Blk w4 g7 75 (mC rows cols (.slice A' m c')) := blk_grown (Hb7.out.alloc _).drew ((HO.out.alloc (.cells #[.int .u8 (xn : Int)] 5)).drew) hg4
                 have hb6 : Blk w4 w.heap.size 75 (mC 0 0 (.slice none 0 0)) := blk_grown (Hb6.out.alloc _).drew ((HO.out.alloc (.cells #[.int .u8 (xn : Int)] 5)).drew) hg4
                 have hB4 : Below w.heap.size w w4 := below_app ((HB.out.alloc hgw (.cells #[.int .u8 (xn : Int)] 5)).drew) hg4 ((HO.out.alloc (.cells #[.int .u8 (xn : Int)] 5)).drew) (show w.heap.size ≤ (wr.alloc (.cells #[.int .u8 (xn : Int)] 5)).heap.size from Nat.le_trans hgw (by simp))
                 have z2 : w4.cell? ⟨g7, 2, none⟩ = some (.slice A' m c') := hb4.cell 2
                 have zf : w4.frozen? ⟨g7, 2, none⟩ = false := hb4.frozen 2
                 replace ho4 := Lib.hid ho4; replace hb4 := Lib.hid hb4; replace hb6 := Lib.hid hb6; clear hg4 _hs4))
          all_goals
            go_wp2_with fail
            go_roundw
            case rel =>
              refine ⟨j + 1, c1, A1, by go_num, by omega, hB4.setCell (p := ⟨g7, 2, none⟩) hg7 _, hb6.out.far (p := ⟨g7, 2, none⟩) (Nat.ne_of_lt hgs) _, ?_, ?_⟩
              · rw [show i * cols + (j + 1) = m + 1 by rw [Hme.out]; omega]
                exact hb4.out.set_ 2 (.slice A1 (m + 1) c1)
              · rw [show i * cols + (j + 1) = m + 1 by rw [Hme.out]; omega, Hstep.out, List.map_append]
                have h := own_setM (j := 2) ho4.out hb4.out (.slice A1 (m + 1) c1)
                rw [← HX.out] at h
                exact h
            case measure => simp [intOf]; omega
        · have hjc2 : j = cols := by omega
          subst hjc2
          go_wp2_with fail
          go_roundw
          case rel => exact ⟨i + 1, c', A', by go_num, by omega, HB, Hb6, (by rw [Nat.succ_mul]; exact Hb7), (by rw [Nat.succ_mul]; exact HO)⟩
          case measure => simp [intOf]; omega
    · have hir2 : i = rows := by omega
      subst hir2
      go_wp2_with (first
        | (refine wpList_load_row rfl 75 _ rfl g7 rfl 75 (mC i cols (.slice A' (i * cols) c')) (0, 0) _ Hb7.out Tryd.underlying75 rfl info_ms ?_)
        | (refine wpList_store_row rfl 75 _ _ rfl w.heap.size (mC i cols (.slice A' (i * cols) c')) rfl rfl 75 (mC 0 0 (.slice none 0 0)) Hb6.out info_ms rfl (mC_one _ _ _ _ _) ?_))
      exact bodyPost_ret (results_cell_row rfl _ _ w.heap.size 75 (mC i cols (.slice A' (i * cols) c')) (0, 0) _ rfl (Hb6.out.row _) Tryd.underlying75 rfl info_ms) rfl ⟨A', c', rfl, own_setRowM HO.out Hb6.out _, below_row HB.out (Nat.le_refl _) _⟩

/-- the identity's cells, Cauchy's cells -/
def oneC (i j : Nat) : UInt8 := if i = j then 1 else 0
def cauC (k i j : Nat) : UInt8 := fi (UInt8.ofNat ((k + i) ^^^ j))

theorem one_any (i j : Nat) (w : World) : Calls Tryd.prog 83 #[.int .i64 i, .int .i64 j] w fun e w' => e = .returned (.int .u8 ((oneC i j).toNat : Int)) ∧ w = w' := by
  unfold oneC
  by_cases h : i = j
  · subst h
    go_enter Tryd.func83, Tryd.ntmps83
    go_wp2_with fail
    go_ret
    exact ⟨by simp, rfl⟩
  · have hne : ((i : Int) == (j : Int)) = false := by rw [beq_eq_false_iff_ne]; omega
    rw [if_neg h]
    clear h
    go_enter Tryd.func83, Tryd.ntmps83
    go_wp2_with fail
    go_ret
    exact ⟨rfl, rfl⟩

set_option maxRecDepth 100000 in
theorem cauchy1_any (k m i j p : Nat) (w : World) (hkm : k + m ≤ 255) (hi : i < m) (hj : j < k) (hc : w.cell? ⟨p, 0, none⟩ = some (.int .i64 k)) :
    Calls Tryd.prog 57 #[.int .i64 i, .int .i64 j, .pointer (some ⟨p, 0, none⟩)] w fun e w' => e = .returned (.int .u8 ((cauC k i j).toNat : Int)) ∧ w = w' := by
  have hx : (k + i) ^^^ j < 256 := Nat.xor_lt_two_pow (n := 8) (by omega) (by omega)
  have hxo : bits .xor .i64 ((k : Int) + (i : Int)) (j : Int) = (((k + i) ^^^ j : Nat) : Int) := by
    rw [← Int.natCast_add]; exact i64_xor_nat (k + i) j (by omega) (by omega)
  have I := inv_any ((k + i) ^^^ j) w hx
  have hv : Hid (((cauC k i j).toNat : Int) = ((Gfp.invV ((k + i) ^^^ j) : Nat) : Int)) := by
    unfold cauC Hid
    rw [fi_toNat, UInt8.toNat_ofNat', show ((k + i) ^^^ j) % 2 ^ 8 = (k + i) ^^^ j from Nat.mod_eq_of_lt hx]
  have hil := Gfp.invV_lt ((k + i) ^^^ j)
  rw [hv.out]
  generalize Gfp.e13 ((k + i) ^^^ j) = ee at *
  generalize Gfp.invV ((k + i) ^^^ j) = iv at *
  generalize (k + i) ^^^ j = x at *
  replace I := Lib.hid I
  go_enter Tryd.func57, Tryd.ntmps57
  go_wp2_with fail
  refine I.out.mono ?_; rintro e w' ⟨rfl, rfl⟩
  go_wp2_with fail
  go_ret
  exact ⟨rfl, rfl⟩

/-- what hands back a matrix: its sizes and cells in a row of its own, and an error's number -/
def MRet (w : World) (r c : Nat) (cs : List UInt8) (err : Int) (e : Ending) (w' : World) : Prop :=
  ∃ A k, e = .returned (.tuple #[.agg (mC r c (.slice A cs.length k)), .int .i64 err]) ∧ w'.ownsRow w.heap.size 5 1 (.slice A cs.length k) cs.length (cs.map B8) ∧ Below w.heap.size w w'
theorem results_cell_int {fn : Func} {p s : Tmp} {ty : TypeId} (h : fn.results = #[.cell p ty, .tmp s]) (tmps : Array Value) (w : World) (g : Nat) (cs : Array Value) (v : Value)
    (hp : tmps.getD p undef = .pointer (some ⟨g, 0, none⟩)) (hs : tmps.getD s undef = v) (hl : (loadVar ty ⟨g, 0, none⟩).run Tryd.prog w = .ok (.agg cs) w) :
    (results fn tmps).run Tryd.prog w = .ok (.tuple #[.agg cs, v]) w := by
  have hp' : tmps[p]?.getD undef = .pointer (some ⟨g, 0, none⟩) := by simpa using hp
  have hs' : tmps[s]?.getD undef = v := by simpa using hs
  simp [results, h, hp', hs', asAddr, hl]

set_option maxRecDepth 100000 in
theorem identity_out (n : Int) (w : World) (hn : Matp.wi n = false) : Calls Tryd.prog 76 #[.int .i64 n] w (MRet w 0 0 [] 13) := by
  have H := within_any n
  rw [hn] at H
  replace H := fun w => Lib.hid (H w)
  have hz := (zero_of_info info_m).1
  go_enter Tryd.func76, Tryd.ntmps76
  go_wp2_with fail
  refine (H _).out.mono ?_; rintro e w' ⟨rfl, rfl⟩
  go_wp2_with fail
  exact bodyPost_ret (v := .tuple #[.agg (mC 0 0 (.slice none 0 0)), .int .i64 13]) (by simp [results, Tryd.results76, go_sem, mC]) rfl ⟨none, 0, rfl, World.ownsRow_nil _ _ _ 1, by
    repeat (with_reducible refine Below.setCell ?_ (by simp) _)
    exact (Below.refl _ _).alloc (Nat.le_refl _) _⟩

set_option maxRecDepth 100000 in
theorem identity_in (n : Nat) (w : World) (hn : n ≤ 255) : Calls Tryd.prog 76 #[.int .i64 n] w (MRet w n n (cellsTo n oneC (n * n)) 0) := by
  have H := within_any n
  rw [show Matp.wi (n : Int) = true by unfold Matp.wi; simp; omega] at H
  replace H := fun w => Lib.hid (H w)
  have hz := (zero_of_info info_m).1
  have M := fun W => Lib.hid (made_one n n oneC W hn hn (fun i j W' _ _ _ => one_any i j W'))
  have hl := cellsTo_len n oneC (n * n)
  unfold MRet
  rw [hl]
  clear hl
  generalize n * n = nn at *
  go_enter Tryd.func76, Tryd.ntmps76
  go_wp2_with fail
  refine (H _).out.mono ?_; rintro e w' ⟨rfl, rfl⟩
  go_wp2_with fail
  have hb0 : Blk (w.alloc (.cells #[.int .i64 0, .int .i64 0, .slice none 0 0] 75)) w.heap.size 75 (mC 0 0 (.slice none 0 0)) := Blk.new _ _ _
  have hB0 : Below w.heap.size w (w.alloc (.cells #[.int .i64 0, .int .i64 0, .slice none 0 0] 75)) := (Below.refl _ _).alloc (Nat.le_refl _) _
  generalize w.alloc (.cells #[.int .i64 0, .int .i64 0, .slice none 0 0] 75) = w1 at *
  refine (M _).out.mono ?_; rintro e w2 ⟨A2, c2, rfl, ho2, hB2⟩
  have hb2 := Lib.hid (hb0.below hB2 hb0.lt)
  have HB2 := Lib.hid (hB0.trans (hB2.mono hB0.size))
  have ho2' := Lib.hid (show w2.ownsRow w.heap.size 5 1 (.slice A2 nn c2) nn ((cellsTo n oneC nn).map B8) from ⟨ho2.1, ho2.2.imp id fun ⟨g, cap, cur, hv, hg, r⟩ => ⟨g, cap, cur, hv, Nat.le_trans hB0.size hg, r⟩⟩)
  clear hb0 hB0 hB2 ho2
  go_wp2_with (refine wpList_store_row rfl 75 _ _ rfl w.heap.size (mC n n (.slice A2 nn c2)) rfl rfl 75 (mC 0 0 (.slice none 0 0)) hb2.out info_ms rfl (mC_one _ _ _ _ _) ?_)
  exact bodyPost_ret (results_cell_int rfl _ _ w.heap.size (mC n n (.slice A2 nn c2)) (.int .i64 0) rfl rfl (run_loadVar_row _ w.heap.size 75 _ (mC n n (.slice A2 nn c2)) (0, 0) _ (hb2.out.row _) Tryd.underlying75 rfl info_ms)) rfl ⟨A2, c2, rfl, own_setRowM ho2'.out hb2.out _, below_row HB2.out (Nat.le_refl _) _⟩
end Go.Proofs.YtjbedcgacnnanaaDoor

namespace Go.Proofs.YtjbedcgacnnanaaDoor
set_option linter.unusedSimpArgs false
set_option linter.unusedVariables false
open Go.RowKit

theorem own_le {w : World} {base base' : Nat} {e : TypeId} {size : Nat} {v : Value} {n : Nat} {xs : List Value} (h : w.ownsRow base e size v n xs) (hb : base' ≤ base) : w.ownsRow base' e size v n xs :=
  ⟨h.1, h.2.imp id fun ⟨g, cap, cur, hv, hg, r⟩ => ⟨g, cap, cur, hv, Nat.le_trans hb hg, r⟩⟩

set_option maxRecDepth 100000 in
theorem cauchy_in (k m : Nat) (w : World) (hkm : k + m ≤ 255) : Calls Tryd.prog 39 #[.int .i64 k, .int .i64 m] w (MRet w m k (cellsTo k (cauC k) (m * k)) 0) := by
  have H := within_any k
  rw [show Matp.wi (k : Int) = true by unfold Matp.wi; simp; omega] at H
  have H2 := within_any m
  rw [show Matp.wi (m : Int) = true by unfold Matp.wi; simp; omega] at H2
  replace H := fun w => Lib.hid (H w)
  replace H2 := fun w => Lib.hid (H2 w)
  have hz := (zero_of_info info_m).1
  have M := fun (W : World) (p : Nat) (hp : p < W.heap.size) (hcp : W.cell? ⟨p, 0, none⟩ = some (.int .i64 k)) => made_cauchy m k p (cauC k) W (by omega) (by omega) (fun i j W' hi hj hB => cauchy1_any k m i j p W' hkm hi hj ((hB.cell (p := ⟨p, 0, none⟩) hp).trans hcp))
  replace M := Lib.hid M
  have hl := cellsTo_len k (cauC k) (m * k)
  unfold MRet
  rw [hl]
  clear hl
  have hsum : (k : Int) + (m : Int) ≤ 255 := by omega
  generalize m * k = nn at *
  go_enter Tryd.func39, Tryd.ntmps39
  go_wp2_with fail
  refine (H _).out.mono ?_; rintro e w' ⟨rfl, rfl⟩
  go_wp2_with fail
  refine (H2 _).out.mono ?_; rintro e w' ⟨rfl, rfl⟩
  go_wp2_with fail
  have hk0 : ((w.alloc (.cells #[.int .i64 k] 3)).alloc (.cells #[.int .i64 0, .int .i64 0, .slice none 0 0] 75)).cell? ⟨w.heap.size, 0, none⟩ = some (.int .i64 k) := (show Blk _ _ 3 #[.int .i64 k] from (Blk.new w _ _).alloc _).cell 0
  have hlt0 : w.heap.size < ((w.alloc (.cells #[.int .i64 k] 3)).alloc (.cells #[.int .i64 0, .int .i64 0, .slice none 0 0] 75)).heap.size := by simp; omega
  have hb0 : Blk ((w.alloc (.cells #[.int .i64 k] 3)).alloc (.cells #[.int .i64 0, .int .i64 0, .slice none 0 0] 75)) (w.heap.size + 1) 75 (mC 0 0 (.slice none 0 0)) := by
    have h := Blk.new (w.alloc (.cells #[.int .i64 k] 3)) 75 (mC 0 0 (.slice none 0 0))
    simpa [mC] using h
  have hB0 : Below w.heap.size w ((w.alloc (.cells #[.int .i64 k] 3)).alloc (.cells #[.int .i64 0, .int .i64 0, .slice none 0 0] 75)) := ((Below.refl _ _).alloc (Nat.le_refl _) _).alloc (by simp) _
  generalize (w.alloc (.cells #[.int .i64 k] 3)).alloc (.cells #[.int .i64 0, .int .i64 0, .slice none 0 0] 75) = w1 at *
  refine (M.out w1 w.heap.size hlt0 hk0).mono ?_; rintro e w2 ⟨A2, c2, rfl, ho2, hB2⟩
  have hb2 := Lib.hid (hb0.below hB2 hb0.lt)
  have HB2 := Lib.hid (hB0.trans (hB2.mono hB0.size))
  have ho2' := Lib.hid (own_le ho2 hB0.size)
  clear hb0 hB0 hB2 ho2 hk0
  go_wp2_with (refine wpList_store_row rfl 75 _ _ rfl (w.heap.size + 1) (mC m k (.slice A2 _ c2)) rfl rfl 75 (mC 0 0 (.slice none 0 0)) hb2.out info_ms rfl (mC_one _ _ _ _ _) ?_)
  exact bodyPost_ret (results_cell_int rfl _ _ (w.heap.size + 1) (mC m k (.slice A2 _ c2)) (.int .i64 0) rfl rfl (run_loadVar_row _ (w.heap.size + 1) 75 _ (mC m k (.slice A2 _ c2)) (0, 0) _ (hb2.out.row _) Tryd.underlying75 rfl info_ms)) rfl ⟨A2, c2, rfl, own_setRowM ho2'.out hb2.out _, below_row HB2.out (Nat.le_succ _) _⟩

/-- where Cauchy's matrix may be -/
def cauOk (k m : Int) : Bool := decide ((0 ≤ k ∧ k ≤ 255) ∧ (0 ≤ m ∧ m ≤ 255) ∧ k + m ≤ 255)

set_option maxRecDepth 100000 in
theorem cauchy_out (k m : Int) (w : World) (h : cauOk k m = false) : Calls Tryd.prog 39 #[.int .i64 k, .int .i64 m] w (MRet w 0 0 [] 13) := by
  have H := fun w => Lib.hid (within_any k w)
  have H2 := fun w => Lib.hid (within_any m w)
  have hz := (zero_of_info info_m).1
  by_cases hk : Matp.wi k = true
  · rw [hk] at H
    by_cases hm : Matp.wi m = true
    · rw [hm] at H2
      have hsum : (255 : Int) < k + m := by
        unfold cauOk at h; unfold Matp.wi at hk hm
        simp only [decide_eq_true_eq, decide_eq_false_iff_not] at h hk hm
        omega
      have hkb : 0 ≤ k ∧ k ≤ 255 := by unfold Matp.wi at hk; simpa using hk
      have hmb : 0 ≤ m ∧ m ≤ 255 := by unfold Matp.wi at hm; simpa using hm
      clear h hk hm
      go_enter Tryd.func39, Tryd.ntmps39
      go_wp2_with fail
      refine (H _).out.mono ?_; rintro e w' ⟨rfl, rfl⟩
      go_wp2_with fail
      refine (H2 _).out.mono ?_; rintro e w' ⟨rfl, rfl⟩
      go_wp2_with fail
      exact bodyPost_ret (v := .tuple #[.agg (mC 0 0 (.slice none 0 0)), .int .i64 13]) (by simp [results, Tryd.results39, go_sem, mC]) rfl ⟨none, 0, rfl, World.ownsRow_nil _ _ _ 1, by
        repeat (with_reducible refine Below.setCell ?_ (by simp) _)
        exact ((Below.refl _ _).alloc (Nat.le_refl _) _).alloc (by simp) _⟩
    · have hm' : Matp.wi m = false := by simpa using hm
      rw [hm'] at H2
      clear h hk hm hm'
      go_enter Tryd.func39, Tryd.ntmps39
      go_wp2_with fail
      refine (H _).out.mono ?_; rintro e w' ⟨rfl, rfl⟩
      go_wp2_with fail
      refine (H2 _).out.mono ?_; rintro e w' ⟨rfl, rfl⟩
      go_wp2_with fail
      exact bodyPost_ret (v := .tuple #[.agg (mC 0 0 (.slice none 0 0)), .int .i64 13]) (by simp [results, Tryd.results39, go_sem, mC]) rfl ⟨none, 0, rfl, World.ownsRow_nil _ _ _ 1, by
        repeat (with_reducible refine Below.setCell ?_ (by simp) _)
        exact ((Below.refl _ _).alloc (Nat.le_refl _) _).alloc (by simp) _⟩
  · have hk' : Matp.wi k = false := by simpa using hk
    rw [hk'] at H
    clear h hk hk' H2
    go_enter Tryd.func39, Tryd.ntmps39
    go_wp2_with fail
    refine (H _).out.mono ?_; rintro e w' ⟨rfl, rfl⟩
    go_wp2_with fail
    exact bodyPost_ret (v := .tuple #[.agg (mC 0 0 (.slice none 0 0)), .int .i64 13]) (by simp [results, Tryd.results39, go_sem, mC]) rfl ⟨none, 0, rfl, World.ownsRow_nil _ _ _ 1, by
      repeat (with_reducible refine Below.setCell ?_ (by simp) _)
      exact ((Below.refl _ _).alloc (Nat.le_refl _) _).alloc (by simp) _⟩

/-! the document's -/
set_option maxRecDepth 100000 in
theorem refIdentity_out (n : Int) (w : World) (hn : Matp.wi n = false) : Calls Tryd.prog 50 #[.int .i64 n] w (MRet w 0 0 [] 13) := by
  have hz := (zero_of_info info_m).1
  have ho : n < 0 ∨ 255 < n := by unfold Matp.wi at hn; simp at hn; omega
  clear hn
  rcases ho with ho | ho
  all_goals
    go_enter Tryd.func50, Tryd.ntmps50
    go_wp2_with fail
    exact bodyPost_ret (v := .tuple #[.agg (mC 0 0 (.slice none 0 0)), .int .i64 13]) (by simp [results, Tryd.results50, go_sem, mC]) rfl ⟨none, 0, rfl, World.ownsRow_nil _ _ _ 1, by
      repeat (with_reducible refine Below.setCell ?_ (by simp) _)
      exact (Below.refl _ _).alloc (Nat.le_refl _) _⟩

set_option maxRecDepth 100000 in
theorem refCauchy_out (k m : Int) (w : World) (h : cauOk k m = false) : Calls Tryd.prog 44 #[.int .i64 k, .int .i64 m] w (MRet w 0 0 [] 13) := by
  have hz := (zero_of_info info_m).1
  have ho : k < 0 ∨ (0 ≤ k ∧ m < 0) ∨ (0 ≤ k ∧ 0 ≤ m ∧ 255 < k) ∨ (0 ≤ k ∧ 0 ≤ m ∧ k ≤ 255 ∧ 255 < m) ∨ (0 ≤ k ∧ 0 ≤ m ∧ k ≤ 255 ∧ m ≤ 255 ∧ 255 < k + m) := by
    unfold cauOk at h; simp only [decide_eq_false_iff_not] at h; omega
  clear h
  rcases ho with h1 | ⟨h1, h2⟩ | ⟨h1, h2, h3⟩ | ⟨h1, h2, h3, h4⟩ | ⟨h1, h2, h3, h4, h5⟩
  all_goals
    go_enter Tryd.func44, Tryd.ntmps44
    go_wp2_with fail
    exact bodyPost_ret (v := .tuple #[.agg (mC 0 0 (.slice none 0 0)), .int .i64 13]) (by simp [results, Tryd.results44, go_sem, mC]) rfl ⟨none, 0, rfl, World.ownsRow_nil _ _ _ 1, by
      repeat (with_reducible refine Below.setCell ?_ (by simp) _)
      exact (Below.refl _ _).alloc (Nat.le_refl _) _⟩
end Go.Proofs.YtjbedcgacnnanaaDoor
