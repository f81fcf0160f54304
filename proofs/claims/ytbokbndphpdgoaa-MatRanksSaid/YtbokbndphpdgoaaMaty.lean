/-
  Cauchy's matrices and the document's identity, walked.
-/
import Derived.Test.YtbokbndphpdgoaaMatx
namespace Go.Proofs.Ytbokbndphpdgoaa
set_option linter.unusedSimpArgs false
set_option linter.unusedVariables false
open Go.RowKit

theorem own_le {w : World} {base base' : Nat} {e : TypeId} {size : Nat} {v : Value} {n : Nat} {xs : List Value} (h : w.ownsRow base e size v n xs) (hb : base' ≤ base) : w.ownsRow base' e size v n xs :=
  ⟨h.1, h.2.imp id fun ⟨g, cap, cur, hv, hg, r⟩ => ⟨g, cap, cur, hv, Nat.le_trans hb hg, r⟩⟩

set_option maxRecDepth 100000 in
theorem cauchy_in (k m : Nat) (w : World) (hkm : k + m ≤ 255) : Calls Try.prog 20 #[.int .i64 k, .int .i64 m] w (MRet w m k (cellsTo k (cauC k) (m * k)) 0) := by
  have H := within_any k
  rw [show Matp.wi (k : Int) = true by unfold Matp.wi; simp; omega] at H
  have H2 := within_any m
  rw [show Matp.wi (m : Int) = true by unfold Matp.wi; simp; omega] at H2
  replace H := fun w => Lib.hid (H w)
  replace H2 := fun w => Lib.hid (H2 w)
  have hz := (zero_of_info info_m).1
  have M := fun (W : World) (p : Nat) (hp : p < W.heap.size) (hcp : W.cell? ⟨p, 0, none⟩ = some (.int .i64 k)) => made_cauchy m k p (cauC k) W (by omega) (by omega) (fun i j W' hi hj hB => cauchy1_any k m i j p W' hkm hi hj ((hB.cell (p := ⟨p, 0, none⟩) hp).trans hcp))
  replace M := Lib.hid M
  have hl := cellsTo_len k (cauC k) (m * k)
  unfold MRet
  rw [hl]
  clear hl
  have hsum : (k : Int) + (m : Int) ≤ 255 := by omega
  generalize m * k = nn at *
  go_enter Try.func20, Try.ntmps20
  go_wp2_with fail
  refine (H _).out.mono ?_; rintro e w' ⟨rfl, rfl⟩
  go_wp2_with fail
  refine (H2 _).out.mono ?_; rintro e w' ⟨rfl, rfl⟩
  go_wp2_with fail
  have hk0 : ((w.alloc (.cells #[.int .i64 k] 3)).alloc (.cells #[.int .i64 0, .int .i64 0, .slice none 0 0] 24)).cell? ⟨w.heap.size, 0, none⟩ = some (.int .i64 k) := (show Blk _ _ 3 #[.int .i64 k] from (Blk.new w _ _).alloc _).cell 0
  have hlt0 : w.heap.size < ((w.alloc (.cells #[.int .i64 k] 3)).alloc (.cells #[.int .i64 0, .int .i64 0, .slice none 0 0] 24)).heap.size := by simp; omega
  have hb0 : Blk ((w.alloc (.cells #[.int .i64 k] 3)).alloc (.cells #[.int .i64 0, .int .i64 0, .slice none 0 0] 24)) (w.heap.size + 1) 24 (mC 0 0 (.slice none 0 0)) := by
    have h := Blk.new (w.alloc (.cells #[.int .i64 k] 3)) 24 (mC 0 0 (.slice none 0 0))
    simpa [mC] using h
  have hB0 : Below w.heap.size w ((w.alloc (.cells #[.int .i64 k] 3)).alloc (.cells #[.int .i64 0, .int .i64 0, .slice none 0 0] 24)) := ((Below.refl _ _).alloc (Nat.le_refl _) _).alloc (by simp) _
  generalize (w.alloc (.cells #[.int .i64 k] 3)).alloc (.cells #[.int .i64 0, .int .i64 0, .slice none 0 0] 24) = w1 at *
  refine (M.out w1 w.heap.size hlt0 hk0).mono ?_; rintro e w2 ⟨A2, c2, rfl, ho2, hB2⟩
  have hb2 := Lib.hid (hb0.below hB2 hb0.lt)
  have HB2 := Lib.hid (hB0.trans (hB2.mono hB0.size))
  have ho2' := Lib.hid (own_le ho2 hB0.size)
  clear hb0 hB0 hB2 ho2 hk0
  go_wp2_with (refine wpList_store_row rfl 24 _ _ rfl (w.heap.size + 1) (mC m k (.slice A2 _ c2)) rfl rfl 24 (mC 0 0 (.slice none 0 0)) hb2.out info_ms rfl (mC_one _ _ _ _ _) ?_)
  exact bodyPost_ret (results_cell_int rfl _ _ (w.heap.size + 1) (mC m k (.slice A2 _ c2)) (.int .i64 0) rfl rfl (run_loadVar_row _ (w.heap.size + 1) 24 _ (mC m k (.slice A2 _ c2)) (0, 0) _ (hb2.out.row _) Try.underlying24 rfl info_ms)) rfl ⟨A2, c2, rfl, own_setRowM ho2'.out hb2.out _, below_row HB2.out (Nat.le_succ _) _⟩

/-- where Cauchy's matrix may be -/
def cauOk (k m : Int) : Bool := decide ((0 ≤ k ∧ k ≤ 255) ∧ (0 ≤ m ∧ m ≤ 255) ∧ k + m ≤ 255)

set_option maxRecDepth 100000 in
theorem cauchy_out (k m : Int) (w : World) (h : cauOk k m = false) : Calls Try.prog 20 #[.int .i64 k, .int .i64 m] w (MRet w 0 0 [] 13) := by
  have H := fun w => Lib.hid (within_any k w)
  have H2 := fun w => Lib.hid (within_any m w)
  have hz := (zero_of_info info_m).1
  by_cases hk : Matp.wi k = true
  · rw [hk] at H
    by_cases hm : Matp.wi m = true
    · rw [hm] at H2
      have hsum : (255 : Int) < k + m := by
        unfold cauOk at h; unfold Matp.wi at hk hm
        simp only [decide_eq_true_eq, decide_eq_false_iff_not] at h hk hm
        omega
      have hkb : 0 ≤ k ∧ k ≤ 255 := by unfold Matp.wi at hk; simpa using hk
      have hmb : 0 ≤ m ∧ m ≤ 255 := by unfold Matp.wi at hm; simpa using hm
      clear h hk hm
      go_enter Try.func20, Try.ntmps20
      go_wp2_with fail
      refine (H _).out.mono ?_; rintro e w' ⟨rfl, rfl⟩
      go_wp2_with fail
      refine (H2 _).out.mono ?_; rintro e w' ⟨rfl, rfl⟩
      go_wp2_with fail
      exact bodyPost_ret (v := .tuple #[.agg (mC 0 0 (.slice none 0 0)), .int .i64 13]) (by simp [results, Try.results20, go_sem, mC]) rfl ⟨none, 0, rfl, World.ownsRow_nil _ _ _ 1, by
        repeat (with_reducible refine Below.setCell ?_ (by simp) _)
        exact ((Below.refl _ _).alloc (Nat.le_refl _) _).alloc (by simp) _⟩
    · have hm' : Matp.wi m = false := by simpa using hm
      rw [hm'] at H2
      clear h hk hm hm'
      go_enter Try.func20, Try.ntmps20
      go_wp2_with fail
      refine (H _).out.mono ?_; rintro e w' ⟨rfl, rfl⟩
      go_wp2_with fail
      refine (H2 _).out.mono ?_; rintro e w' ⟨rfl, rfl⟩
      go_wp2_with fail
      exact bodyPost_ret (v := .tuple #[.agg (mC 0 0 (.slice none 0 0)), .int .i64 13]) (by simp [results, Try.results20, go_sem, mC]) rfl ⟨none, 0, rfl, World.ownsRow_nil _ _ _ 1, by
        repeat (with_reducible refine Below.setCell ?_ (by simp) _)
        exact ((Below.refl _ _).alloc (Nat.le_refl _) _).alloc (by simp) _⟩
  · have hk' : Matp.wi k = false := by simpa using hk
    rw [hk'] at H
    clear h hk hk' H2
    go_enter Try.func20, Try.ntmps20
    go_wp2_with fail
    refine (H _).out.mono ?_; rintro e w' ⟨rfl, rfl⟩
    go_wp2_with fail
    exact bodyPost_ret (v := .tuple #[.agg (mC 0 0 (.slice none 0 0)), .int .i64 13]) (by simp [results, Try.results20, go_sem, mC]) rfl ⟨none, 0, rfl, World.ownsRow_nil _ _ _ 1, by
      repeat (with_reducible refine Below.setCell ?_ (by simp) _)
      exact ((Below.refl _ _).alloc (Nat.le_refl _) _).alloc (by simp) _⟩

/-! the document's -/
set_option maxRecDepth 100000 in
theorem refIdentity_out (n : Int) (w : World) (hn : Matp.wi n = false) : Calls Try.prog 18 #[.int .i64 n] w (MRet w 0 0 [] 13) := by
  have hz := (zero_of_info info_m).1
  have ho : n < 0 ∨ 255 < n := by unfold Matp.wi at hn; simp at hn; omega
  clear hn
  rcases ho with ho | ho
  all_goals
    go_enter Try.func18, Try.ntmps18
    go_wp2_with fail
    exact bodyPost_ret (v := .tuple #[.agg (mC 0 0 (.slice none 0 0)), .int .i64 13]) (by simp [results, Try.results18, go_sem, mC]) rfl ⟨none, 0, rfl, World.ownsRow_nil _ _ _ 1, by
      repeat (with_reducible refine Below.setCell ?_ (by simp) _)
      exact (Below.refl _ _).alloc (Nat.le_refl _) _⟩

set_option maxRecDepth 100000 in
theorem refCauchy_out (k m : Int) (w : World) (h : cauOk k m = false) : Calls Try.prog 21 #[.int .i64 k, .int .i64 m] w (MRet w 0 0 [] 13) := by
  have hz := (zero_of_info info_m).1
  have ho : k < 0 ∨ (0 ≤ k ∧ m < 0) ∨ (0 ≤ k ∧ 0 ≤ m ∧ 255 < k) ∨ (0 ≤ k ∧ 0 ≤ m ∧ k ≤ 255 ∧ 255 < m) ∨ (0 ≤ k ∧ 0 ≤ m ∧ k ≤ 255 ∧ m ≤ 255 ∧ 255 < k + m) := by
    unfold cauOk at h; simp only [decide_eq_false_iff_not] at h; omega
  clear h
  rcases ho with h1 | ⟨h1, h2⟩ | ⟨h1, h2, h3⟩ | ⟨h1, h2, h3, h4⟩ | ⟨h1, h2, h3, h4, h5⟩
  all_goals
    go_enter Try.func21, Try.ntmps21
    go_wp2_with fail
    exact bodyPost_ret (v := .tuple #[.agg (mC 0 0 (.slice none 0 0)), .int .i64 13]) (by simp [results, Try.results21, go_sem, mC]) rfl ⟨none, 0, rfl, World.ownsRow_nil _ _ _ 1, by
      repeat (with_reducible refine Below.setCell ?_ (by simp) _)
      exact (Below.refl _ _).alloc (Nat.le_refl _) _⟩
end Go.Proofs.Ytbokbndphpdgoaa
