/-
  The usual options of each version, as the program and as the document says them.
-/
import Derived.Test.YtekimjjbpdkonaaOptl
import Derived.Test.YtekimjjbpdkonaaMem
namespace Go.Proofs.Ytekimjjbpdkonaa
open Go.RowKit
set_option linter.unusedSimpArgs false

/-- the usual options as cells: what stands there ahead of version v's step -/
def duK (v : Nat) : Int := if 2 ≤ v then 16 else 0
def duD (v : Nat) : Int := if 3 ≤ v then 4 else 0
def duQ (v : Nat) : Int := if 3 ≤ v then 2 else 0
def duC (v : Nat) : Int := if 3 ≤ v then 64 else 0
def duS (v : Nat) : Array Value := #[.int .i64 1024, .bool false, .int .i64 (duK v), .int .i64 (duD v), .int .i64 (duQ v), .int .i64 (duC v)]
def op0 : Array Value := #[.int .i64 0, .bool false, .int .i64 0, .int .i64 0, .int .i64 0, .int .i64 0]
theorem info_op : (Try.prog.info? 23).map (·.size) = some 6 := by kernel_rfl

theorem duS_one (v : Nat) : (duS v).all (·.oneCell') = true := by simp [duS, Value.oneCell']
theorem results_cell_int {fn : Func} {p s : Tmp} {ty : TypeId} (h : fn.results = #[.cell p ty, .tmp s]) (tmps : Array Value) (w : World) (g : Nat) (cs : Array Value) (v : Value)
    (hp : tmps.getD p undef = .pointer (some ⟨g, 0, none⟩)) (hs : tmps.getD s undef = v) (hl : (loadVar ty ⟨g, 0, none⟩).run Try.prog w = .ok (.agg cs) w) :
    (results fn tmps).run Try.prog w = .ok (.tuple #[.agg cs, v]) w := by
  have hp' : tmps[p]?.getD undef = .pointer (some ⟨g, 0, none⟩) := by simpa using hp
  have hs' : tmps[s]?.getD undef = v := by simpa using hs
  simp [results, h, hp', hs', asAddr, hl]

set_option maxRecDepth 100000 in
theorem default_out (v : Int) (w : World) (hv : Optp.wi v 1 3 = false) :
    Calls Try.prog 13 #[.int .i64 v] w fun e w' => e = .returned (.tuple #[.agg op0, .int .i64 4]) ∧ Below w.heap.size w w' := by
  have H := within_any v 1 3
  rw [hv] at H
  replace H := fun w => Lib.hid (H w)
  go_enter Try.func13, Try.ntmps13
  go_wp2_with fail
  refine (H _).out.mono ?_; rintro e w' ⟨rfl, rfl⟩
  go_wp2_with fail
  exact bodyPost_ret (v := .tuple #[.agg op0, .int .i64 4]) (by simp [results, Try.results13, go_sem, op0]) rfl ⟨rfl, by
    repeat (with_reducible refine Below.setCell ?_ (by simp) _)
    exact ((Below.refl _ _).alloc (Nat.le_refl _) _).alloc (by simp) _⟩

set_option maxRecDepth 100000 in
theorem default_in (n : Nat) (w : World) (h1 : 1 ≤ n) (h3 : n ≤ 3) :
    Calls Try.prog 13 #[.int .i64 n] w fun e w' => e = .returned (.tuple #[.agg (duS n), .int .i64 0]) ∧ Below w.heap.size w w' := by
  have H := within_any n 1 3
  rw [show Optp.wi (n : Int) 1 3 = true by unfold Optp.wi; simp; omega] at H
  replace H := fun w => Lib.hid (H w)
  have G1 := fun w => Lib.hid (grow_1 1024 0 0 0 0 false w (by omega) (by decide))
  have G2 := fun w => Lib.hid (grow_2 1024 16 0 0 0 false w (by omega) (by decide))
  go_enter Try.func13, Try.ntmps13
  go_wp2_with fail
  refine (H _).out.mono ?_; rintro e w' ⟨rfl, rfl⟩
  go_wp2_with fail
  have hB : Below w.heap.size w ((w.alloc (.cells op0 23)).alloc (.cells (duS 1) 23)) := ((Below.refl _ _).alloc (Nat.le_refl _) _).alloc (by simp) _
  have hb1 : Blk ((w.alloc (.cells op0 23)).alloc (.cells (duS 1) 23)) w.heap.size 23 op0 := (Blk.new w _ _).alloc _
  have hb2 : Blk ((w.alloc (.cells op0 23)).alloc (.cells (duS 1) 23)) (w.heap.size + 1) 23 (duS 1) := heap_alloc2_new w _ _
  have e0 : (#[.int .i64 0, .bool false, .int .i64 0, .int .i64 0, .int .i64 0, .int .i64 0] : Array Value) = op0 := rfl
  have e1 : (#[.int .i64 1024, .bool false, .int .i64 0, .int .i64 0, .int .i64 0, .int .i64 0] : Array Value) = duS 1 := rfl
  rw [e0, e1]
  generalize (w.alloc (.cells op0 23)).alloc (.cells (duS 1) 23) = w1 at *
  replace hB := Lib.hid hB; replace hb1 := Lib.hid hb1; replace hb2 := Lib.hid hb2
  have hsz := fun v => Lib.hid (show (Try.prog.info? 23).map (·.size) = some (duS v).size from info_op)
  go_loopw [5] (fun i wr => ∃ k : Nat, i = .int .i64 k ∧ 1 ≤ k ∧ k ≤ n ∧ Hid (Below w.heap.size w wr) ∧ Hid (Blk wr w.heap.size 23 op0) ∧ Hid (Blk wr (w.heap.size + 1) 23 (duS k))) (fun i _ => (3 - intOf i).toNat)
  case atStart => exact ⟨1, rfl, by omega, by omega, hB, hb1, hb2⟩
  case round =>
    obtain ⟨k, rfl, hk1, hk, HB, Hb1, Hb2⟩ := hrel
    by_cases hlt : k < n
    · have hlt' : (k : Int) < n := by omega
      have G : Hid (∀ W, Calls Try.prog 11 #[.int .i64 k, .agg (duS k)] W fun e w' => e = .returned (.tuple #[.agg (duS (k + 1)), .int .i64 0]) ∧ Below W.heap.size W w') := by
        have h12 : k = 1 ∨ k = 2 := by omega
        rcases h12 with rfl | rfl
        · exact fun W => (G1 W).out
        · exact fun W => (G2 W).out
      go_wp2_with (refine wpList_load_row rfl 23 _ rfl (w.heap.size + 1) rfl 23 (duS k) (0, 0) _ Hb2.out Try.underlying23 rfl (hsz k).out ?_)
      refine (G.out _).mono ?_; rintro e w2 ⟨rfl, hB2⟩
      have hlw : w.heap.size + 1 < wr.heap.size := Hb2.out.lt
      have HB' := Lib.hid (HB.out.trans (hB2.mono HB.out.size))
      have Hb1' := Lib.hid (Hb1.out.below hB2 (by omega))
      have Hb2' := Lib.hid (Hb2.out.below hB2 hlw)
      clear hB2 HB Hb1 Hb2
      go_wp2_with (refine wpList_store_row rfl 23 _ _ rfl (w.heap.size + 1) (duS (k + 1)) rfl rfl 23 (duS k) Hb2'.out (hsz (k + 1)).out rfl (duS_one _) ?_)
      go_roundw
      case rel => exact ⟨k + 1, by go_num, by omega, by omega, below_row HB'.out (Nat.le_succ _) _, Hb1'.out.rowFar (by omega) _, Hb2'.out.row _⟩
      case measure => simp [intOf]; omega
    · obtain rfl : k = n := by omega
      go_wp2_with (first
        | (refine wpList_load_row rfl 23 _ rfl (w.heap.size + 1) rfl 23 (duS k) (0, 0) _ Hb2.out Try.underlying23 rfl (hsz k).out ?_)
        | (refine wpList_store_row rfl 23 _ _ rfl w.heap.size (duS k) rfl rfl 23 op0 Hb1.out (hsz k).out rfl (duS_one _) ?_))
      exact bodyPost_ret (results_cell_int rfl _ _ w.heap.size (duS k) (.int .i64 0) rfl rfl (run_loadVar_row _ w.heap.size 23 _ (duS k) (0, 0) _ (Hb1.out.row _) Try.underlying23 rfl (hsz k).out)) rfl ⟨rfl, below_row HB.out (Nat.le_refl _) _⟩

/-! the document's -/
set_option maxRecDepth 100000 in
theorem refDefault_in (n : Nat) (w : World) (h1 : 1 ≤ n) (h3 : n ≤ 3) :
    Calls Try.prog 14 #[.int .i64 n] w fun e w' => e = .returned (.tuple #[.agg (duS n), .int .i64 0]) ∧ Below w.heap.size w w' := by
  have hn : n = 1 ∨ n = 2 ∨ n = 3 := by omega
  rcases hn with rfl | rfl | rfl
  all_goals
    go_enter Try.func14, Try.ntmps14
    go_wp2_with fail
    exact bodyPost_ret (v := .tuple #[.agg (duS _), .int .i64 0]) (by simp [results, Try.results14, go_sem, duS, duK, duD, duQ, duC]) rfl ⟨rfl, by
      repeat (with_reducible refine Below.setCell ?_ (by simp) _)
      exact (Below.refl _ _).alloc (Nat.le_refl _) _⟩

set_option maxRecDepth 100000 in
theorem refDefault_out (v : Int) (w : World) (hv : Optp.wi v 1 3 = false) :
    Calls Try.prog 14 #[.int .i64 v] w fun e w' => e = .returned (.tuple #[.agg op0, .int .i64 4]) ∧ Below w.heap.size w w' := by
  have h1 : ((v : Int) == 1) = false := by unfold Optp.wi at hv; simp at hv ⊢; omega
  have h2 : ((v : Int) == 2) = false := by unfold Optp.wi at hv; simp at hv ⊢; omega
  have h3 : ((v : Int) == 3) = false := by unfold Optp.wi at hv; simp at hv ⊢; omega
  go_enter Try.func14, Try.ntmps14
  go_wp2_with fail
  exact bodyPost_ret (v := .tuple #[.agg op0, .int .i64 4]) (by simp [results, Try.results14, go_sem, op0]) rfl ⟨rfl, by
    repeat (with_reducible refine Below.setCell ?_ (by simp) _)
    exact (Below.refl _ _).alloc (Nat.le_refl _) _⟩
end Go.Proofs.Ytekimjjbpdkonaa
