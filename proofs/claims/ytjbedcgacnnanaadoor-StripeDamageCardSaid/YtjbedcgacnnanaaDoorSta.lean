/-
  Sizes of stripes, plainly; and the shape's methods and Size, the program's and the document's, walked.
-/
import Derived.Test.YtjbedcgacnnanaaDoorRst
namespace Go.Proofs.YtjbedcgacnnanaaDoor
set_option linter.unusedSimpArgs false
set_option linter.unusedVariables false
open Go.RowKit

namespace Stp
/-- may the shape be for n bytes? -/
def ok (k m ch n : Int) : Bool := Rsp.may k m && (decide (1 ≤ ch) && (decide (ch ≤ 4096) && (decide (0 ≤ n) && decide (n ≤ 8388608))))
/-- stripes of n bytes, d data bytes in each -/
def num (d n : Nat) : Nat := (n + d - 1) / d
def size (k m ch n : Nat) : Nat := num (k * ch) n * ((k + m) * (ch + 4))
def sizeE (k m ch n : Int) : Int := if ok k m ch n = true then (if size k.toNat m.toNat ch.toNat n.toNat ≤ 16777216 then 0 else 6) else 13
def sizeV (k m ch n : Int) : Nat := if sizeE k m ch n = 0 then size k.toNat m.toNat ch.toNat n.toNat else 0
theorem ok_nat {k m ch n : Int} (h : ok k m ch n = true) : ∃ a b c d : Nat, k = (a : Int) ∧ m = (b : Int) ∧ ch = (c : Int) ∧ n = (d : Int) ∧ 1 ≤ a ∧ a + b ≤ 255 ∧ 1 ≤ c ∧ c ≤ 4096 ∧ d ≤ 8388608 := by
  unfold ok Rsp.may at h
  simp only [Bool.and_eq_true, decide_eq_true_eq] at h
  exact ⟨k.toNat, m.toNat, ch.toNat, n.toNat, by omega, by omega, by omega, by omega, by omega, by omega, by omega, by omega, by omega⟩
theorem ok_of {a b c d : Nat} (h1 : 1 ≤ a) (h2 : a + b ≤ 255) (h3 : 1 ≤ c) (h4 : c ≤ 4096) (h5 : d ≤ 8388608) : ok a b c d = true := by
  unfold ok Rsp.may
  simp only [Bool.and_eq_true, decide_eq_true_eq]
  omega
theorem sizeE_no {k m ch n : Int} (h : ok k m ch n = false) : sizeE k m ch n = 13 ∧ sizeV k m ch n = 0 := by
  have e : sizeE k m ch n = 13 := by unfold sizeE; rw [if_neg (by rw [h]; decide)]
  exact ⟨e, by unfold sizeV; rw [e]; rfl⟩
theorem sizeE_in {a b c d : Nat} (h : ok a b c d = true) (hs : size a b c d ≤ 16777216) : sizeE a b c d = 0 ∧ sizeV a b c d = size a b c d := by
  have e : sizeE a b c d = 0 := by unfold sizeE; rw [if_pos h]; simp only [Int.toNat_natCast]; rw [if_pos hs]
  exact ⟨e, by unfold sizeV; rw [if_pos e]; simp only [Int.toNat_natCast]⟩
theorem sizeE_big {a b c d : Nat} (h : ok a b c d = true) (hs : 16777216 < size a b c d) : sizeE a b c d = 6 ∧ sizeV a b c d = 0 := by
  have e : sizeE a b c d = 6 := by unfold sizeE; rw [if_pos h]; simp only [Int.toNat_natCast]; rw [if_neg (by omega)]
  exact ⟨e, by unfold sizeV; rw [e]; rfl⟩
theorem num_le {d n : Nat} (hd : 1 ≤ d) : num d n ≤ n := by
  unfold num
  rcases Nat.eq_zero_or_pos n with h | h
  · subst h; rw [Nat.zero_add, Nat.div_eq_of_lt (by omega)]; omega
  · apply Nat.div_le_of_le_mul
    have : n + d ≤ d * n + 1 := by
      obtain ⟨e, rfl⟩ : ∃ e, d = e + 1 := ⟨d - 1, by omega⟩
      obtain ⟨f, rfl⟩ : ∃ f, n = f + 1 := ⟨n - 1, by omega⟩
      rw [Nat.add_mul, Nat.mul_add]; omega
    omega
/-- the document's way to count them -/
theorem num_ref {d n : Nat} (hd : 1 ≤ d) : num d n = if n / d * d < n then n / d + 1 else n / d := by
  unfold num
  have h1 := Nat.div_add_mod n d
  have h2 := Nat.mod_lt n (show 0 < d by omega)
  have h3 : n / d * d = d * (n / d) := Nat.mul_comm _ _
  rw [h3]
  by_cases h : n % d = 0
  · rw [if_neg (by omega)]
    have : n + d - 1 = d * (n / d) + (d - 1) := by omega
    rw [this, Nat.mul_add_div (by omega), Nat.div_eq_of_lt (show d - 1 < d by omega), Nat.add_zero]
  · rw [if_pos (by omega)]
    have : n + d - 1 = d * (n / d + 1) + (n % d - 1) := by rw [Nat.mul_add]; omega
    rw [this, Nat.mul_add_div (by omega), Nat.div_eq_of_lt (show n % d - 1 < d by omega), Nat.add_zero]
theorem prod_le {a b A B : Nat} (ha : a ≤ A) (hb : b ≤ B) : a * b ≤ A * B := Nat.mul_le_mul ha hb
theorem laid_le {a b c : Nat} (h2 : a + b ≤ 255) (h4 : c ≤ 4096) : (a + b) * (c + 4) ≤ 1045500 := by
  have := prod_le h2 (show c + 4 ≤ 4100 by omega); omega
theorem data_le {a c : Nat} (h2 : a ≤ 255) (h4 : c ≤ 4096) : a * c ≤ 1044480 := by
  have := prod_le h2 h4; omega
theorem data_pos {a c : Nat} (h1 : 1 ≤ a) (h3 : 1 ≤ c) : 1 ≤ a * c := by
  have := prod_le h1 h3; omega
theorem size_le {s l : Nat} (hs : s ≤ 8388608) (hl : l ≤ 1045500) : s * l ≤ 8770289664000 := by
  have := prod_le hs hl; omega
end Stp
/-- the shape in a box -/
theorem ok_walk_cases (k m ch n : Int) : (k < 1 ∧ Stp.ok k m ch n = false) ∨ (1 ≤ k ∧ m < 0 ∧ Stp.ok k m ch n = false) ∨ (1 ≤ k ∧ 0 ≤ m ∧ 255 < k ∧ Stp.ok k m ch n = false) ∨ (1 ≤ k ∧ 0 ≤ m ∧ k ≤ 255 ∧ 255 - k < m ∧ Stp.ok k m ch n = false) ∨
    (1 ≤ k ∧ 0 ≤ m ∧ k ≤ 255 ∧ m ≤ 255 - k ∧ ch < 1 ∧ Stp.ok k m ch n = false) ∨ (1 ≤ k ∧ 0 ≤ m ∧ k ≤ 255 ∧ m ≤ 255 - k ∧ 1 ≤ ch ∧ 4096 < ch ∧ Stp.ok k m ch n = false) ∨ (1 ≤ k ∧ 0 ≤ m ∧ k ≤ 255 ∧ m ≤ 255 - k ∧ 1 ≤ ch ∧ ch ≤ 4096 ∧ n < 0 ∧ Stp.ok k m ch n = false) ∨
    (1 ≤ k ∧ 0 ≤ m ∧ k ≤ 255 ∧ m ≤ 255 - k ∧ 1 ≤ ch ∧ ch ≤ 4096 ∧ 0 ≤ n ∧ 8388608 < n ∧ Stp.ok k m ch n = false) ∨ (1 ≤ k ∧ 0 ≤ m ∧ k ≤ 255 ∧ m ≤ 255 - k ∧ 1 ≤ ch ∧ ch ≤ 4096 ∧ 0 ≤ n ∧ n ≤ 8388608 ∧ Stp.ok k m ch n = true) := by
  have hb : Stp.ok k m ch n = decide ((1 ≤ k ∧ 0 ≤ m ∧ k + m ≤ 255) ∧ 1 ≤ ch ∧ ch ≤ 4096 ∧ 0 ≤ n ∧ n ≤ 8388608) := by
    rw [Bool.eq_iff_iff]
    unfold Stp.ok Rsp.may
    simp only [Bool.and_eq_true, decide_eq_true_eq]
  have F : ¬ ((1 ≤ k ∧ 0 ≤ m ∧ k + m ≤ 255) ∧ 1 ≤ ch ∧ ch ≤ 4096 ∧ 0 ≤ n ∧ n ≤ 8388608) → Stp.ok k m ch n = false := fun h => by rw [hb]; exact decide_eq_false h
  have T : ((1 ≤ k ∧ 0 ≤ m ∧ k + m ≤ 255) ∧ 1 ≤ ch ∧ ch ≤ 4096 ∧ 0 ≤ n ∧ n ≤ 8388608) → Stp.ok k m ch n = true := fun h => by rw [hb]; exact decide_eq_true h
  clear hb
  by_cases h1 : k < 1
  · exact .inl ⟨h1, F (fun h => by omega)⟩
  by_cases h2 : m < 0
  · exact .inr (.inl ⟨by omega, h2, F (fun h => by omega)⟩)
  by_cases h3 : 255 < k
  · exact .inr (.inr (.inl ⟨by omega, by omega, h3, F (fun h => by omega)⟩))
  by_cases h4 : 255 - k < m
  · exact .inr (.inr (.inr (.inl ⟨by omega, by omega, by omega, h4, F (fun h => by omega)⟩)))
  by_cases h5 : ch < 1
  · exact .inr (.inr (.inr (.inr (.inl ⟨by omega, by omega, by omega, by omega, h5, F (fun h => by omega)⟩))))
  by_cases h6 : 4096 < ch
  · exact .inr (.inr (.inr (.inr (.inr (.inl ⟨by omega, by omega, by omega, by omega, by omega, h6, F (fun h => by omega)⟩)))))
  by_cases h7 : n < 0
  · exact .inr (.inr (.inr (.inr (.inr (.inr (.inl ⟨by omega, by omega, by omega, by omega, by omega, by omega, h7, F (fun h => by omega)⟩))))))
  by_cases h8 : 8388608 < n
  · exact .inr (.inr (.inr (.inr (.inr (.inr (.inr (.inl ⟨by omega, by omega, by omega, by omega, by omega, by omega, by omega, h8, F (fun h => by omega)⟩)))))))
  exact .inr (.inr (.inr (.inr (.inr (.inr (.inr (.inr ⟨by omega, by omega, by omega, by omega, by omega, by omega, by omega, by omega, T ⟨⟨by omega, by omega, by omega⟩, by omega, by omega, by omega, by omega⟩⟩)))))))
theorem box_below (w : World) (v0 v1 v2 : Value) : Below w.heap.size w (w.alloc (.cells #[v0, v1, v2] 50)) := (Below.refl _ _).alloc (Nat.le_refl _) _
set_option maxRecDepth 100000 in
set_option maxHeartbeats 4000000 in
theorem shapeMay_any (k m ch n : Int) (w : World) : Calls Tryd.prog 21 #[.agg #[.int .i64 k, .int .i64 m, .int .i64 ch], .int .i64 n] w fun e w' => e = .returned (.bool (Stp.ok k m ch n)) ∧ Below w.heap.size w w' := by
  have hB := Lib.hid (box_below w (.int .i64 k) (.int .i64 m) (.int .i64 ch))
  rcases ok_walk_cases k m ch n with ⟨h1, e⟩ | ⟨h1, h2, e⟩ | ⟨h1, h2, h3, e⟩ | ⟨h1, h2, h3, h4, e⟩ | ⟨h1, h2, h3, h4, h5, e⟩ | ⟨h1, h2, h3, h4, h5, h6, e⟩ | ⟨h1, h2, h3, h4, h5, h6, h7, e⟩ | ⟨h1, h2, h3, h4, h5, h6, h7, h8, e⟩ | ⟨h1, h2, h3, h4, h5, h6, h7, h8, e⟩
  · rw [e]; clear e
    go_enter Tryd.func21, Tryd.ntmps21
    go_wp2_with fail
    go_ret
    exact ⟨by first | rfl | (simp; omega), hB.out⟩
  · rw [e]; clear e
    go_enter Tryd.func21, Tryd.ntmps21
    go_wp2_with fail
    go_ret
    exact ⟨by first | rfl | (simp; omega), hB.out⟩
  · rw [e]; clear e
    go_enter Tryd.func21, Tryd.ntmps21
    go_wp2_with fail
    go_ret
    exact ⟨by first | rfl | (simp; omega), hB.out⟩
  all_goals
    rw [e]; clear e
    have hs : IntKind.i64.wrap (255 - k) = 255 - k := by
      obtain ⟨s, hs⟩ : ∃ s : Nat, 255 - k = (s : Int) := ⟨(255 - k).toNat, by omega⟩
      rw [hs, IntKind.wrap_i64]; omega
    go_enter Tryd.func21, Tryd.ntmps21
    go_wp2_with fail
    go_ret
    exact ⟨by first | rfl | (simp; omega), hB.out⟩
set_option maxRecDepth 100000 in
set_option maxHeartbeats 4000000 in
theorem data_any (a b c : Nat) (w : World) (h1 : a ≤ 255) (h2 : c ≤ 4096) : Calls Tryd.prog 25 #[.agg #[.int .i64 a, .int .i64 b, .int .i64 c]] w fun e w' => e = .returned (.int .i64 ((a * c : Nat) : Int)) ∧ Below w.heap.size w w' := by
  have hB := Lib.hid (box_below w (.int .i64 a) (.int .i64 b) (.int .i64 c))
  have hle := Stp.data_le h1 h2
  have hm : (a : Int) * (c : Int) = ((a * c : Nat) : Int) := (Int.natCast_mul a c).symm
  generalize a * c = d at *
  go_enter Tryd.func25, Tryd.ntmps25
  go_wp2_with fail
  go_ret
  exact ⟨rfl, hB.out⟩
set_option maxRecDepth 100000 in
set_option maxHeartbeats 4000000 in
theorem laid_any (a b c : Nat) (w : World) (h1 : a + b ≤ 255) (h2 : c ≤ 4096) : Calls Tryd.prog 23 #[.agg #[.int .i64 a, .int .i64 b, .int .i64 c]] w fun e w' => e = .returned (.int .i64 (((a + b) * (c + 4) : Nat) : Int)) ∧ Below w.heap.size w w' := by
  have hB := Lib.hid (box_below w (.int .i64 a) (.int .i64 b) (.int .i64 c))
  have hle := Stp.laid_le h1 h2
  have hs1 : (a : Int) + (b : Int) = ((a + b : Nat) : Int) := by omega
  have hs2 : (c : Int) + 4 = ((c + 4 : Nat) : Int) := by omega
  have hm : ((a + b : Nat) : Int) * ((c + 4 : Nat) : Int) = (((a + b) * (c + 4) : Nat) : Int) := (Int.natCast_mul _ _).symm
  have hab : a + b ≤ 255 := h1
  have hc4 : c + 4 ≤ 4100 := by omega
  generalize (a + b) * (c + 4) = d at *
  generalize a + b = ab at *
  generalize c + 4 = c4 at *
  go_enter Tryd.func23, Tryd.ntmps23
  go_wp2_with fail
  go_ret
  exact ⟨rfl, hB.out⟩
set_option maxRecDepth 100000 in
set_option maxHeartbeats 4000000 in
theorem stripes_any (a b c n : Nat) (w : World) (h1 : a ≤ 255) (h2 : c ≤ 4096) (ha : 1 ≤ a) (hc : 1 ≤ c) (hn : n ≤ 8388608) : Calls Tryd.prog 22 #[.agg #[.int .i64 a, .int .i64 b, .int .i64 c], .int .i64 n] w fun e w' => e = .returned (.int .i64 (Stp.num (a * c) n : Nat)) ∧ Below w.heap.size w w' := by
  have hB := Lib.hid (box_below w (.int .i64 a) (.int .i64 b) (.int .i64 c))
  have hb := Blk.new w 50 #[.int .i64 a, .int .i64 b, .int .i64 c]
  have KD := Lib.hid (fun W => data_any a b c W h1 h2)
  have hle := Stp.data_le h1 h2
  have hpos := Stp.data_pos ha hc
  generalize a * c = d at *
  unfold Stp.num
  have hs1 : IntKind.i64.wrap ((n : Int) + (d : Int)) = ((n + d : Nat) : Int) := by rw [← Int.natCast_add, IntKind.wrap_i64]; omega
  have hs2 : IntKind.i64.wrap (((n + d : Nat) : Int) - 1) = ((n + d - 1 : Nat) : Int) := by
    rw [show ((n + d : Nat) : Int) - 1 = ((n + d - 1 : Nat) : Int) by omega, IntKind.wrap_i64]; omega
  have hq : (n + d - 1) / d ≤ n + d := Nat.le_trans (Nat.div_le_self _ _) (by omega)
  have hq3 : ((n + d - 1 : Nat) : Int) / (d : Int) = (((n + d - 1) / d : Nat) : Int) := (Int.natCast_ediv _ _).symm
  have hq1 : ((n + d - 1 : Nat) : Int).tdiv (d : Int) = (((n + d - 1) / d : Nat) : Int) := by rw [Int.tdiv_eq_ediv_of_nonneg (by omega)]; exact hq3
  generalize (n + d - 1) / d = q at *
  have hq2 : IntKind.i64.wrap (q : Int) = (q : Int) := by rw [IntKind.wrap_i64]; omega
  generalize n + d - 1 = y at *
  generalize n + d = z at *
  have hd0 : ((d : Int) == 0) = false := by simp; omega
  have hd1 : ¬ (d : Int) = 0 := by omega
  have hd2 : ¬ d = 0 := by omega
  go_enter Tryd.func22, Tryd.ntmps22
  go_wp2_with fail
  generalize w.alloc (.cells #[.int .i64 a, .int .i64 b, .int .i64 c] 50) = w1 at *
  have SB : Hid (∀ W, Below w1.heap.size w1 W → W.cell? ⟨w.heap.size, 0, none⟩ = some (.int .i64 a) ∧ W.cell? ⟨w.heap.size, 1, none⟩ = some (.int .i64 b) ∧ W.cell? ⟨w.heap.size, 2, none⟩ = some (.int .i64 c)) := fun W hW => ⟨(hb.below hW hb.lt).cell 0, (hb.below hW hb.lt).cell 1, (hb.below hW hb.lt).cell 2⟩
  have hcells := SB.out w1 (Below.refl _ _)
  refine region_E 9 (fun W => W.cell? ⟨w.heap.size, 0, none⟩ = some (.int .i64 a) ∧ W.cell? ⟨w.heap.size, 1, none⟩ = some (.int .i64 b) ∧ W.cell? ⟨w.heap.size, 2, none⟩ = some (.int .i64 c)) (by kernel_rfl) (SB.out _ (Below.refl _ _).drew) (fun hHeld => ?_)
  refine took 0 (v := ?_) rfl (by kernel_rfl) (by kernel_rfl) (by kernel_rfl) (by kernel_rfl) (fun _ _ _ h => h) (by rfl) (by assumption) ?_ ?_
  rotate_left
  · (intro W hSw; (try dsimp only at hSw); go_simp; first | done | with_reducible rfl)
  try simp only [Act.put, List.setIfInBounds_toArray, List.set_cons_zero, List.set_cons_succ]
  refine took 1 (v := ?_) rfl (by kernel_rfl) (by kernel_rfl) (by kernel_rfl) (by kernel_rfl) (fun _ _ _ h => h) (by rfl) (by assumption) ?_ ?_
  rotate_left
  · (intro W hSw; (try dsimp only at hSw); go_simp; first | done | with_reducible rfl)
  try simp only [Act.put, List.setIfInBounds_toArray, List.set_cons_zero, List.set_cons_succ]
  refine took 5 (v := ?_) rfl (by kernel_rfl) (by kernel_rfl) (by kernel_rfl) (by kernel_rfl) (fun _ _ _ h => h) (by rfl) (by assumption) ?_ ?_
  rotate_left
  · (intro W hSw; (try dsimp only at hSw); go_simp; first | done | with_reducible rfl)
  try simp only [Act.put, List.setIfInBounds_toArray, List.set_cons_zero, List.set_cons_succ]
  refine carried 2 rfl (by kernel_rfl) (by rfl) (fun K hK => ?_)
  go_simp
  (go_at_call 25; ((with_reducible refine (KD.out _).mono ?_); rintro e w2 ⟨rfl, hB2⟩); have HB2 := Lib.hid (below_then (Below.refl _ w1).drew hB2); clear hB2)
  refine hK.out _ _ ((SB.out _ HB2.out)) (fun hHeld => ?_)
  clear hK K
  try simp only [Act.put, List.setIfInBounds_toArray, List.set_cons_zero, List.set_cons_succ]
  refine took 3 (v := ?_) rfl (by kernel_rfl) (by kernel_rfl) (by kernel_rfl) (by kernel_rfl) (fun _ _ _ h => h) (by rfl) (by assumption) ?_ ?_
  rotate_left
  · (intro W hSw; (try dsimp only at hSw); go_simp; first | done | with_reducible rfl)
  try simp only [Act.put, List.setIfInBounds_toArray, List.set_cons_zero, List.set_cons_succ]
  refine took 4 (v := ?_) rfl (by kernel_rfl) (by kernel_rfl) (by kernel_rfl) (by kernel_rfl) (fun _ _ _ h => h) (by rfl) (by assumption) ?_ ?_
  rotate_left
  · (intro W hSw; (try dsimp only at hSw); go_simp; first | done | with_reducible rfl)
  try simp only [Act.put, List.setIfInBounds_toArray, List.set_cons_zero, List.set_cons_succ]
  refine carried 6 rfl (by kernel_rfl) (by rfl) (fun K hK => ?_)
  go_simp
  (go_at_call 25; ((with_reducible refine (KD.out _).mono ?_); rintro e w3 ⟨rfl, hB3⟩); have HB3 := Lib.hid (below_then HB2.out hB3); clear hB3)
  refine hK.out _ _ ((SB.out _ HB3.out)) (fun hHeld => ?_)
  clear hK K
  try simp only [Act.put, List.setIfInBounds_toArray, List.set_cons_zero, List.set_cons_succ]
  refine took 7 (v := ?_) rfl (by kernel_rfl) (by kernel_rfl) (by kernel_rfl) (by kernel_rfl) (fun _ _ _ h => h) (by rfl) (by assumption) ?_ ?_
  rotate_left
  · (intro W hSw; (try dsimp only at hSw); go_simp; first | done | with_reducible rfl)
  try simp only [Act.put, List.setIfInBounds_toArray, List.set_cons_zero, List.set_cons_succ]
  refine took 8 (v := ?_) rfl (by kernel_rfl) (by kernel_rfl) (by kernel_rfl) (by kernel_rfl) (fun _ _ _ h => h) (by rfl) (by assumption) ?_ ?_
  rotate_left
  · (intro W hSw; (try dsimp only at hSw); go_simp; first | done | with_reducible rfl)
  try simp only [Act.put, List.setIfInBounds_toArray, List.set_cons_zero, List.set_cons_succ]
  refine allDone (by kernel_rfl) ?_ _
  have HB4 := Lib.hid (below_then hB.out HB3.out)
  clear hHeld SB hb hcells
  go_wp2_with fail
  go_ret
  exact ⟨rfl, HB4.out⟩
end Go.Proofs.YtjbedcgacnnanaaDoor
