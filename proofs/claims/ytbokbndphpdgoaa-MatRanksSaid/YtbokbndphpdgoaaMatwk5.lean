/-
  A matrix and the identity beside it: working; Inverse: walked.
-/
import Derived.Test.YtbokbndphpdgoaaMatwk4
namespace Go.Proofs.Ytbokbndphpdgoaa
set_option linter.unusedSimpArgs false
set_option linter.unusedVariables false
open Go.RowKit

theorem below_of_drew {B : Nat} {a w : World} (h : Below B a.drew w) : Below B a w := ⟨h.os, h.tape, h.output, h.size, h.block⟩
set_option maxRecDepth 100000 in
set_option maxHeartbeats 4000000 in
theorem working_any {R C n k : Nat} {A : Option Addr} {bs : List UInt8} {w : World} (hR : R ≤ 255) (hC : C ≤ 255) (hn : n = R * C) (h : Reads w w.heap.size 1 A n (bs.map B8)) :
    Calls Try.prog 43 #[.agg #[.int .i64 R, .int .i64 C, .slice A n k]] w fun e w' => ∃ g A1 k1 A2 n2 k2, e = .returned (.pointer (some ⟨g, 0, none⟩)) ∧ Below w.heap.size w w' ∧
      Pw w' w.heap.size g R C A1 n k1 (cellAt bs C) A2 n2 k2 Lin.one := by
  have hbl : bs.length = R * C := by have := h.len; omega
  have hN : n ≤ 65025 := by rw [hn]; exact rc_le hR hC
  have CL := Lib.hid (fun (W : World) (hB : Below w.heap.size w W) => clone_any A n k w.heap.size bs W (h.below hB) hB.size (by omega))
  have MO := Lib.hid (fun W => made_one R R Lin.one W hR hR (fun i j W' _ _ _ => one_any i j W'))
  have HC : Hid (bs = cellsTo C (cellAt bs C) (R * C)) := cellsTo_of bs R C hbl
  have HN := Lib.hid hn
  unfold SlRet at CL
  unfold mC at MO
  have hne : 5 ≠ 66 := by decide
  have hne2 : 5 ≠ 24 := by decide
  clear h hbl hn
  go_enter Try.func43, Try.ntmps43
  go_wp2_with fail
  have hb0 : Blk (w.alloc (.cells #[.int .i64 R, .int .i64 C, .slice A n k] 24)) w.heap.size 24 #[.int .i64 R, .int .i64 C, .slice A n k] := Blk.new _ _ _
  have hB0 : Below w.heap.size w (w.alloc (.cells #[.int .i64 R, .int .i64 C, .slice A n k] 24)) := (Below.refl _ _).alloc (Nat.le_refl _) _
  generalize w.alloc (.cells #[.int .i64 R, .int .i64 C, .slice A n k] 24) = w1 at *
  refine (CL.out _ hB0).mono ?_; rintro e w2 ⟨A1, k1, rfl, hf⟩
  have hb2 := hb0.below hf.below hb0.lt
  have hB2 := hB0.trans (hf.below.mono hB0.size)
  have ho2 : w2.ownsRow w.heap.size 5 1 (.slice A1 n k1) n (bs.map B8) := own_base hf.1 hB0.size
  have hfz : w2.frozen? ⟨w.heap.size, 2, none⟩ = false := hb2.frozen 2
  have x2 := hb2.cell 2
  have hb3 := hb2.set_ 2 (.slice A1 n k1)
  have hB3 := hB2.setCell (p := ⟨w.heap.size, 2, none⟩) (Nat.le_refl _) (.slice A1 n k1)
  have ho3 := own_setM ho2 hb2 (j := 2) (.slice A1 n k1)
  have hlt0 := hb0.lt
  clear hf hb0 hB0
  replace hb2 := Lib.hid hb2; replace hB2 := Lib.hid hB2; replace ho2 := Lib.hid ho2
  go_wp2_with fail
  replace hb3 : Blk (w2.setCell ⟨w.heap.size, 2, none⟩ (.slice A1 n k1)) w.heap.size 24 #[.int .i64 R, .int .i64 C, .slice A1 n k1] := by simpa using hb3
  clear hfz x2 hb2 hB2 ho2
  generalize w2.setCell ⟨w.heap.size, 2, none⟩ (.slice A1 n k1) = w3 at *
  have hw3 : w.heap.size < w3.heap.size := hb3.lt
  have SB : Hid (∀ W, Below w3.heap.size w3 W → W.cell? ⟨w.heap.size, 0, none⟩ = some (.int .i64 R) ∧ W.cell? ⟨w.heap.size, 1, none⟩ = some (.int .i64 C) ∧ W.cell? ⟨w.heap.size, 2, none⟩ = some (.slice A1 n k1)) := fun W hW => ⟨(hb3.below hW hb3.lt).cell 0, (hb3.below hW hb3.lt).cell 1, (hb3.below hW hb3.lt).cell 2⟩
  replace hb3 := Lib.hid hb3; replace hB3 := Lib.hid hB3; replace ho3 := Lib.hid ho3
  refine region_E 11 (fun W => W.cell? ⟨w.heap.size, 0, none⟩ = some (.int .i64 R) ∧ W.cell? ⟨w.heap.size, 1, none⟩ = some (.int .i64 C) ∧ W.cell? ⟨w.heap.size, 2, none⟩ = some (.slice A1 n k1)) (by kernel_rfl) (SB.out w3 (Below.refl _ _)) (fun hHeld => ?_)
  refine took 0 (v := ?_) rfl (by kernel_rfl) (by kernel_rfl) (by kernel_rfl) (by kernel_rfl) (fun _ _ _ h => h) (by rfl) (by assumption) ?_ ?_
  rotate_left
  · (intro W hSw; (try dsimp only at hSw); go_simp; first | done | with_reducible rfl)
  try simp only [Act.put, List.setIfInBounds_toArray, List.set_cons_zero, List.set_cons_succ]
  refine took 1 (v := ?_) rfl (by kernel_rfl) (by kernel_rfl) (by kernel_rfl) (by kernel_rfl) (fun _ _ _ h => h) (by rfl) (by assumption) ?_ ?_
  rotate_left
  · (intro W hSw; (try dsimp only at hSw); go_simp; first | done | with_reducible rfl)
  try simp only [Act.put, List.setIfInBounds_toArray, List.set_cons_zero, List.set_cons_succ]
  refine took 2 (v := ?_) rfl (by kernel_rfl) (by kernel_rfl) (by kernel_rfl) (by kernel_rfl) (fun _ _ _ h => h) (by rfl) (by assumption) ?_ ?_
  rotate_left
  · (intro W hSw; (try dsimp only at hSw); go_simp; first | done | with_reducible rfl)
  try simp only [Act.put, List.setIfInBounds_toArray, List.set_cons_zero, List.set_cons_succ]
  refine took 3 (v := ?_) rfl (by kernel_rfl) (by kernel_rfl) (by kernel_rfl) (by kernel_rfl) (fun _ _ _ h => h) (by rfl) (by assumption) ?_ ?_
  rotate_left
  · (intro W hSw; (try dsimp only at hSw); go_simp; first | done | with_reducible rfl)
  try simp only [Act.put, List.setIfInBounds_toArray, List.set_cons_zero, List.set_cons_succ]
  refine took 4 (v := ?_) rfl (by kernel_rfl) (by kernel_rfl) (by kernel_rfl) (by kernel_rfl) (fun _ _ _ h => h) (by rfl) (by assumption) ?_ ?_
  rotate_left
  · (intro W hSw; (try dsimp only at hSw); go_simp; first | done | with_reducible rfl)
  try simp only [Act.put, List.setIfInBounds_toArray, List.set_cons_zero, List.set_cons_succ]
  refine took 5 (v := ?_) rfl (by kernel_rfl) (by kernel_rfl) (by kernel_rfl) (by kernel_rfl) (fun _ _ _ h => h) (by rfl) (by assumption) ?_ ?_
  rotate_left
  · (intro W hSw; (try dsimp only at hSw); go_simp; first | done | with_reducible rfl)
  try simp only [Act.put, List.setIfInBounds_toArray, List.set_cons_zero, List.set_cons_succ]
  refine carried 6 rfl (by kernel_rfl) (by rfl) (fun K hK => ?_)
  go_simp
  (go_at_call 34; ((with_reducible refine (MO.out _).mono ?_); rintro e w5 ⟨A2, k2, rfl, ho5, hB5⟩); have HB5 := Lib.hid (below_of_drew hB5); replace ho5 := Lib.hid ho5; clear hB5)
  refine hK.out _ _ ((SB.out _ HB5.out)) (fun hHeld => ?_)
  clear hK K
  try simp only [Act.put, List.setIfInBounds_toArray, List.set_cons_zero, List.set_cons_succ]
  refine took 7 (v := ?_) rfl (by kernel_rfl) (by kernel_rfl) (by kernel_rfl) (by kernel_rfl) (fun _ _ _ h => h) (by rfl) (by assumption) ?_ ?_
  rotate_left
  · (intro W hSw; (try dsimp only at hSw); go_simp; first | done | with_reducible rfl)
  try simp only [Act.put, List.setIfInBounds_toArray, List.set_cons_zero, List.set_cons_succ]
  refine took 8 (v := ?_) rfl (by kernel_rfl) (by kernel_rfl) (by kernel_rfl) (by kernel_rfl) (fun _ _ _ h => h) (by rfl) (by assumption) ?_ ?_
  rotate_left
  · (intro W hSw; (try dsimp only at hSw); go_simp; first | done | with_reducible rfl)
  try simp only [Act.put, List.setIfInBounds_toArray, List.set_cons_zero, List.set_cons_succ]
  refine carried 9 rfl (by kernel_rfl) (by rfl) (fun K hK => ?_)
  go_simp
  skip
  refine hK.out _ _ ((SB.out _ (HB5.out.alloc HB5.out.size _))) (fun hHeld => ?_)
  clear hK K
  try simp only [Act.put, List.setIfInBounds_toArray, List.set_cons_zero, List.set_cons_succ]
  refine took 10 (v := ?_) rfl (by kernel_rfl) (by kernel_rfl) (by kernel_rfl) (by kernel_rfl) (fun _ _ _ h => h) (by rfl) (by assumption) ?_ ?_
  rotate_left
  · (intro W hSw; (try dsimp only at hSw); go_simp; first | done | with_reducible rfl)
  try simp only [Act.put, List.setIfInBounds_toArray, List.set_cons_zero, List.set_cons_succ]
  refine allDone (by kernel_rfl) ?_ _
  clear hHeld
  have HB5' : Below w3.heap.size w3 w5 := HB5.out
  have hoA : w5.ownsRow w.heap.size 5 1 (.slice A1 n k1) n ((cellsTo C (cellAt bs C) (R * C)).map B8) := by
    rw [← HC.out]
    exact own_belowL ho3.out HB5'
  have hoB : w5.ownsRow w.heap.size 5 1 (.slice A2 (R * R) k2) (R * R) ((cellsTo R Lin.one (R * R)).map B8) := own_base ho5.out hB3.out.size
  have l1 : ∀ a, A1 = some a → a.block < w3.heap.size := fun a ha => (ho3.out.lt a.block (by rw [ownBlock_slice, ha]; rfl)).2
  have l2 : ∀ a, A2 = some a → w3.heap.size ≤ a.block ∧ a.block < w5.heap.size := fun a ha => ho5.out.lt a.block (by rw [ownBlock_slice, ha]; rfl)
  have hs5 : w3.heap.size ≤ w5.heap.size := HB5'.size
  have hw35 : w.heap.size ≤ w5.heap.size := Nat.le_trans hB3.out.size hs5
  have hB6 : Below w.heap.size w (w5.alloc (.cells #[.int .i64 R, .int .i64 C, .slice A1 n k1, .int .i64 R, .int .i64 R, .slice A2 (R * R) k2] 66)) := (hB3.out.trans (HB5'.mono hB3.out.size)).alloc hw35 _
  have hPw : Pw (w5.alloc (.cells #[.int .i64 R, .int .i64 C, .slice A1 n k1, .int .i64 R, .int .i64 R, .slice A2 (R * R) k2] 66)) w.heap.size w5.heap.size R C A1 n k1 (cellAt bs C) A2 (R * R) k2 Lin.one := by
    refine ⟨⟨(Blk.new _ _ _).cell 0, (Blk.new _ _ _).cell 1, (Blk.new _ _ _).cell 2, hoA.alloc _, by simp, ?_, by simp; omega⟩, ⟨(Blk.new _ _ _).cell 3, (Blk.new _ _ _).cell 4, (Blk.new _ _ _).cell 5, hoB.alloc _, by simp, ?_, by simp; omega⟩, ?_⟩
    · cases A1 with
      | none => simp
      | some a => have := l1 a rfl; simp; omega
    · cases A2 with
      | none => simp
      | some a => have := l2 a rfl; simp; omega
    · intro x y hx hy
      have h1 := l1 x hx
      have h2 := l2 y hy
      omega
  replace hPw := Lib.hid hPw; replace hB6 := Lib.hid hB6
  clear hoA hoB l1 l2
  go_wp2_with fail
  go_ret
  exact ⟨_, A1, k1, A2, R * R, k2, rfl, hB6.out, hPw.out⟩
end Go.Proofs.Ytbokbndphpdgoaa
