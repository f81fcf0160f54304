/-
  Plain laws of the tokens: each may be; where each begins; of a byte that stands many times; what is played.
-/
import Derived.Test.YtiakpffmjkkniaaLzp
namespace Go.Proofs.Ytiakpffmjkkniaa
set_option linter.unusedSimpArgs false
set_option linter.unusedVariables false
namespace Lzp
/-- may it be? -/
def mayB (lit len dist : Int) : Bool := if len = 0 then decide (dist = 0) else decide (lit = 0 ∧ 3 ≤ len ∧ len ≤ 257 ∧ 1 ≤ dist ∧ dist ≤ 4095)
theorem win_le (i : Nat) : win i ≤ 4095 ∧ win i ≤ i := by unfold win; omega
theorem one_may (b : List UInt8) (i : Nat) : mayB ((one b i).1 : Int) ((one b i).2.1 : Int) ((one b i).2.2 : Int) = true := by
  unfold one
  split
  · rename_i h
    have h1 := (best_le b i (win i))
    have h2 := best_dist b i (win i) (show 0 < (tok b i).1 by omega)
    have h3 := win_le i
    unfold tok at h ⊢
    unfold mayB
    rw [if_neg (by show ¬ (((best b i (win i)).1 : Nat) : Int) = 0; omega)]
    simp only [decide_eq_true_eq]
    show ((0 : Nat) : Int) = 0 ∧ 3 ≤ (((best b i (win i)).1 : Nat) : Int) ∧ (((best b i (win i)).1 : Nat) : Int) ≤ 257 ∧ 1 ≤ (((best b i (win i)).2 : Nat) : Int) ∧ (((best b i (win i)).2 : Nat) : Int) ≤ 4095
    omega
  · rfl
theorem toks_mem (b : List UInt8) : ∀ f i t, t ∈ toks b f i → ∃ j, j < b.length ∧ t = one b j
  | 0, _, t, h => by cases h
  | f+1, i, t, h => by
    unfold toks at h
    split at h
    · rename_i hi
      rcases List.mem_cons.1 h with rfl | h
      · exact ⟨i, hi, rfl⟩
      · exact toks_mem b f _ t h
    · cases h
theorem find_may (b : List UInt8) (t : Nat × Nat × Nat) (h : t ∈ find b) : mayB (t.1 : Int) (t.2.1 : Int) (t.2.2 : Int) = true := by
  obtain ⟨j, _, rfl⟩ := toks_mem b _ _ t h
  exact one_may b j
theorem one_lt (b : List UInt8) (i : Nat) : (one b i).1 < 256 ∧ (one b i).2.1 ≤ 257 ∧ (one b i).2.2 ≤ 4095 := by
  have h1 := (best_le b i (win i))
  have h3 := win_le i
  unfold one tok
  split
  · exact ⟨by show 0 < 256; omega, h1.1, by show (best b i (win i)).2 ≤ 4095; omega⟩
  · exact ⟨(b.getD i 0).toNat_lt, by show 0 ≤ 257; omega, by show 0 ≤ 4095; omega⟩
theorem find_lt (b : List UInt8) (t : Nat × Nat × Nat) (h : t ∈ find b) : t.1 < 256 ∧ t.2.1 ≤ 257 ∧ t.2.2 ≤ 4095 := by
  obtain ⟨j, _, rfl⟩ := toks_mem b _ _ t h
  exact one_lt b j

/-! where each begins -/
def size1 (t : Nat × Nat × Nat) : Nat := if 0 < t.2.1 ∧ t.2.1 < 300 then t.2.1 else 1
def sizeT (l : List (Nat × Nat × Nat)) : Nat := l.foldl (fun n t => n + size1 t) 0
theorem sizeT_snoc (l : List (Nat × Nat × Nat)) (t : Nat × Nat × Nat) : sizeT (l ++ [t]) = sizeT l + size1 t := by simp [sizeT, List.foldl_append]
theorem one_size (b : List UInt8) (i : Nat) : size1 (one b i) = step b i := by
  have h1 := (best_le b i (win i))
  unfold size1 one step tok
  split
  · rename_i h
    rw [if_pos ⟨by show 0 < (best b i (win i)).1; omega, by show (best b i (win i)).1 < 300; omega⟩]
  · rfl
/-- the tokens from the k-th on begin where those ahead end -/
theorem find_split (b : List UInt8) : ∀ k, k ≤ (find b).length → (find b).drop k = from_ b (sizeT ((find b).take k)) ∧ sizeT ((find b).take k) ≤ b.length
  | 0, _ => ⟨by rw [List.drop_zero, List.take_zero]; exact find_from b, by rw [List.take_zero]; exact Nat.zero_le _⟩
  | k+1, h => by
    obtain ⟨ih, ih2⟩ := find_split b k (by omega)
    have hne : sizeT ((find b).take k) < b.length := by
      rcases Nat.lt_or_ge (sizeT ((find b).take k)) b.length with hlt | hge
      · exact hlt
      · rw [from_end b _ hge] at ih
        have := congrArg List.length ih
        rw [List.length_drop] at this
        simp at this; omega
    rw [from_step b _ hne, List.drop_eq_getElem_cons (by omega)] at ih
    injection ih with e1 e2
    have ht : (find b).take (k + 1) = (find b).take k ++ [(find b)[k]] := by rw [List.take_add_one, List.getElem?_eq_getElem (by omega)]; rfl
    rw [ht, sizeT_snoc, e1, one_size]
    exact ⟨e2, step_end b _ hne⟩
theorem find_at (b : List UInt8) (k : Nat) (h : k < (find b).length) : (find b)[k] = one b (sizeT ((find b).take k)) ∧ sizeT ((find b).take k) < b.length := by
  obtain ⟨ih, ih2⟩ := find_split b k (by omega)
  have hne : sizeT ((find b).take k) < b.length := by
    rcases Nat.lt_or_ge (sizeT ((find b).take k)) b.length with hlt | hge
    · exact hlt
    · rw [from_end b _ hge] at ih
      have := congrArg List.length ih
      rw [List.length_drop] at this
      simp at this; omega
  rw [from_step b _ hne, List.drop_eq_getElem_cons h] at ih
  injection ih with e1 _
  exact ⟨e1, hne⟩
theorem find_all (b : List UInt8) : sizeT (find b) = b.length := by
  obtain ⟨h1, h2⟩ := find_split b (find b).length (Nat.le_refl _)
  rw [List.take_length, List.drop_length] at h1
  rw [List.take_length] at h2
  rcases Nat.lt_or_ge (sizeT (find b)) b.length with hlt | hge
  · rw [from_step b _ hlt] at h1; cases h1
  · omega
theorem sizeT_mono (l : List (Nat × Nat × Nat)) : ∀ k, sizeT (l.take k) ≤ sizeT l := by
  intro k
  have h : l = l.take k ++ l.drop k := (List.take_append_drop k l).symm
  have : ∀ (m : List (Nat × Nat × Nat)) (n : Nat), n ≤ m.foldl (fun n t => n + size1 t) n := by
    intro m
    induction m with
    | nil => intro n; exact Nat.le_refl n
    | cons a m ih => intro n; exact Nat.le_trans (Nat.le_add_right n (size1 a)) (ih _)
  calc sizeT (l.take k) ≤ (l.drop k).foldl (fun n t => n + size1 t) (sizeT (l.take k)) := this _ _
    _ = sizeT (l.take k ++ l.drop k) := by unfold sizeT; rw [List.foldl_append]
    _ = sizeT l := by rw [← h]

/-! a byte that stands m times -/
theorem run_ok (c : UInt8) (m p i k : Nat) (hp : p < i) : ok (List.replicate m c) p i k = decide (i + k < m) := by
  unfold ok
  rw [List.length_replicate]
  by_cases h : i + k < m
  · have e1 : (List.replicate m c).getD (p + k) 0 = c := by rw [List.getD_eq_getElem?_getD, List.getElem?_replicate, if_pos (by omega)]; rfl
    have e2 : (List.replicate m c).getD (i + k) 0 = c := by rw [List.getD_eq_getElem?_getD, List.getElem?_replicate, if_pos h]; rfl
    rw [e1, e2]; simp [h]
  · simp [h]
theorem run_mrun (c : UInt8) (m p i : Nat) (hp : p < i) (hi : i ≤ m) : ∀ f k, i + k ≤ m → mrun (List.replicate m c) p i f k = min (k + f) (m - i)
  | 0, k, h => by unfold mrun; omega
  | f+1, k, h => by
    unfold mrun
    rw [run_ok c m p i k hp]
    by_cases hk : i + k < m
    · rw [if_pos (by simp [hk]), run_mrun c m p i hp hi f (k + 1) (by omega)]; omega
    · rw [if_neg (by simp [hk])]; omega
theorem run_mlen (c : UInt8) (m p i : Nat) (hp : p < i) (hi : i ≤ m) : mlen (List.replicate m c) p i = min 257 (m - i) := by
  unfold mlen
  rw [run_mrun c m p i hp hi 257 0 (by omega), Nat.zero_add]
theorem run_best (c : UInt8) (m i : Nat) (h0 : 1 ≤ i) (hi : i < m) : ∀ D, D + 1 ≤ i → best (List.replicate m c) i (D + 1) = (min 257 (m - i), 1)
  | 0, h => by
    have h := run_mlen c m (i - (0 + 1)) i (by omega) (by omega)
    unfold best
    rw [h, if_pos (by show 0 < _; omega)]
  | D+1, h => by
    have ih := run_best c m i h0 hi D (by omega)
    unfold best
    rw [ih, run_mlen c m _ i (by omega) (by omega), if_neg (by show ¬ min 257 (m - i) < min 257 (m - i); omega)]
theorem run_tok (c : UInt8) (m i : Nat) (h0 : 1 ≤ i) (hi : i < m) : tok (List.replicate m c) i = (min 257 (m - i), 1) := by
  unfold tok
  obtain ⟨D, hD⟩ : ∃ D, win i = D + 1 := ⟨win i - 1, by unfold win; omega⟩
  rw [hD]
  exact run_best c m i h0 hi D (by have := win_le i; omega)
theorem run_one (c : UInt8) (m i : Nat) (hi : i < m) : one (List.replicate m c) i = (if 1 ≤ i ∧ 3 ≤ m - i then (0, min 257 (m - i), 1) else (c.toNat, 0, 0)) ∧ step (List.replicate m c) i = (if 1 ≤ i ∧ 3 ≤ m - i then min 257 (m - i) else 1) := by
  have e2 : (List.replicate m c).getD i 0 = c := by rw [List.getD_eq_getElem?_getD, List.getElem?_replicate, if_pos hi]; rfl
  rcases Nat.eq_zero_or_pos i with rfl | h0
  · have ht : (tok (List.replicate m c) 0).1 = 0 := rfl
    unfold one step
    rw [ht, e2]
    exact ⟨rfl, rfl⟩
  · unfold one step
    rw [run_tok c m i h0 hi, e2]
    by_cases h3 : 3 ≤ m - i
    · rw [if_pos (by show 3 ≤ min 257 (m - i); omega), if_pos ⟨h0, h3⟩, if_pos (by show 3 ≤ min 257 (m - i); omega), if_pos ⟨h0, h3⟩]
      exact ⟨rfl, rfl⟩
    · rw [if_neg (by show ¬ 3 ≤ min 257 (m - i); omega), if_neg (by omega), if_neg (by show ¬ 3 ≤ min 257 (m - i); omega), if_neg (by omega)]
      exact ⟨rfl, rfl⟩
end Lzp
end Go.Proofs.Ytiakpffmjkkniaa
