/-
  Whatever rows of the identity with Cauchy's matrix below it: stacked, picked, inverted.
-/
import Derived.Test.YtbokbndphpdgoaaMatwk7
import Derived.Test.YtbokbndphpdgoaaMats
import Derived.Test.YtbokbndphpdgoaaLin4
namespace Go.Proofs.Ytbokbndphpdgoaa
set_option linter.unusedSimpArgs false
set_option linter.unusedVariables false
open Go.RowKit

theorem cellsTo_row (C : Nat) (f : Nat → Nat → UInt8) (i : Nat) : ∀ j, j ≤ C → cellsTo C f (i * C + j) = cellsTo C f (i * C) ++ (List.range j).map (f i)
  | 0, _ => by simp
  | j + 1, hj => by
    rw [← Nat.add_assoc, cellsTo_step C f i j (by omega), cellsTo_row C f i j (by omega), List.range_succ, List.map_append, List.append_assoc]; rfl
theorem cellsTo_succ (C : Nat) (f : Nat → Nat → UInt8) (i : Nat) : cellsTo C f ((i + 1) * C) = cellsTo C f (i * C) ++ rowF C (f i) := by
  rw [Nat.succ_mul, cellsTo_row C f i C (Nat.le_refl _)]; rfl
/-- one below the other -/
theorem cellsTo_below (C R1 : Nat) (f g : Nat → Nat → UInt8) : ∀ R2, cellsTo C f (R1 * C) ++ cellsTo C g (R2 * C) = cellsTo C (fun i j => if i < R1 then f i j else g (i - R1) j) ((R1 + R2) * C)
  | 0 => by
    rw [Nat.add_zero, Nat.zero_mul, show cellsTo C g 0 = [] from rfl, List.append_nil]
    apply cellsTo_congr
    intro i j hi _
    rw [if_pos hi]
  | R2 + 1 => by
    rw [cellsTo_succ, ← List.append_assoc, cellsTo_below C R1 f g R2, ← Nat.add_assoc, cellsTo_succ]
    congr 1
    apply List.map_congr_left
    intro j _
    rw [if_neg (by omega), Nat.add_sub_cancel_left]
theorem whole_eq (n p : Nat) : cellsTo n oneC (n * n) ++ cellsTo n (cauC n) (p * n) = cellsTo n (Lin.wholeC n) ((n + p) * n) := by
  rw [cellsTo_below]
  apply cellsTo_congr
  intro i j _ _
  unfold Lin.wholeC cauC
  by_cases h : i < n
  · rw [if_pos h, if_pos h]; rfl
  · rw [if_neg h, if_neg h, show n + (i - n) = i by omega]
theorem stackGo_two (n p : Nat) (hn : n + p ≤ 255) : stackGo (stackC [((n : Int), (n : Int), cellsTo n oneC (n * n)), ((p : Int), (n : Int), cellsTo n (cauC n) (p * n))]) [((n : Int), (n : Int), cellsTo n oneC (n * n)), ((p : Int), (n : Int), cellsTo n (cauC n) (p * n))] 0 [] = some (n + p, cellsTo n (Lin.wholeC n) ((n + p) * n)) := by
  rw [← whole_eq]
  have h1 : Matp.may (n : Int) (n : Int) (n * n) = true := by unfold Matp.may; rw [Int.natCast_mul]; simp; omega
  have h2 : Matp.may (p : Int) (n : Int) (p * n) = true := by unfold Matp.may; rw [Int.natCast_mul]; simp; omega
  simp only [stackGo, stackC, cellsTo_len, h1, h2, true_and, Int.toNat_natCast, List.nil_append, Nat.zero_add]
  rw [if_pos (by omega), if_pos (by omega)]
theorem pickGo_nat (bs : List UInt8) (R C : Nat) (f : Nat → Nat → UInt8) (hbs : bs = cellsTo C f (R * C)) : ∀ (P : List Nat) (out : List UInt8), (∀ x ∈ P, x < R) → pickGo bs R C (P.map fun (x : Nat) => (x : Int)) out = some (out ++ (P.map fun x => rowF C (f x)).flatten)
  | [], out, _ => by simp [pickGo]
  | x :: P, out, h => by
    have hx := h x (List.mem_cons_self ..)
    rw [List.map_cons, pickGo, if_pos ⟨by omega, by omega⟩, Int.toNat_natCast, pickGo_nat bs R C f hbs P _ (fun y hy => h y (List.mem_cons_of_mem _ hy)), hbs, rowC_cellsTo R C x f hx]
    simp
theorem flat_rows (C : Nat) (f : Nat → Nat → UInt8) (P : List Nat) : ∀ k, k ≤ P.length → ((P.take k).map fun x => rowF C (f x)).flatten = cellsTo C (fun i j => f (P.getD i 0) j) (k * C)
  | 0, _ => by simp [cellsTo]
  | k + 1, hk => by
    rw [List.take_succ_eq_append_getElem (by omega), List.map_append, List.flatten_append, flat_rows C f P k (by omega), cellsTo_succ]
    congr 1
    simp only [List.map_cons, List.map_nil, List.flatten_cons, List.flatten_nil, List.append_nil]
    rw [List.getD_eq_getElem?_getD, List.getElem?_eq_getElem (by omega)]; rfl
theorem flat_all (C : Nat) (f : Nat → Nat → UInt8) (P : List Nat) : (P.map fun x => rowF C (f x)).flatten = cellsTo C (fun i j => f (P.getD i 0) j) (P.length * C) := by
  have := flat_rows C f P P.length (Nat.le_refl _)
  rwa [List.take_length] at this
/-- what is picked has an inverse -/
theorem sub_inverse (n p : Nat) (P : List Nat) (hn : n + p ≤ 256) (hl : P.length = n) (hnd : P.Nodup) (hP : ∀ x ∈ P, x < n + p) : ∃ X, Lin.inverse n (cellAt (cellsTo n (fun i j => Lin.wholeC n (P.getD i 0) j) (n * n)) n) = some X := by
  obtain ⟨X, hX⟩ := Lin.picked_inverse n p P hn hl hnd hP
  apply Lin.inverse_of_left (N := X)
  intro i j hi hj
  rw [Lin.mm_congr (fun _ _ => rfl) (fun t ht => cells_eq ht hj)]
  exact (Lin.inverse_some hX).1 i j hi hj

/-- Stack of the identity and Cauchy's matrix, in a box of the call's own -/
theorem stack2 {W : World} {Ai Ac : Option Addr} {ki kc n p : Nat} (hn : n + p ≤ 255) (hi : Reads W W.heap.size 1 Ai (n * n) ((cellsTo n oneC (n * n)).map B8)) (hc : Reads W W.heap.size 1 Ac (p * n) ((cellsTo n (cauC n) (p * n)).map B8)) (hki : n * n ≤ ki) (hkc : p * n ≤ kc) :
    Calls Try.prog 23 #[.slice (some ⟨W.heap.size, 0, none⟩) 2 2] (W.alloc (.cells #[.int .i64 n, .int .i64 n, .slice Ai (n * n) ki, .int .i64 p, .int .i64 n, .slice Ac (p * n) kc] 24)) (MRet W (n + p) n (cellsTo n (Lin.wholeC n) ((n + p) * n)) 0) := by
  have hb := Blk.new W 24 #[.int .i64 n, .int .i64 n, .slice Ai (n * n) ki, .int .i64 p, .int .i64 n, .slice Ac (p * n) kc]
  have hB : Below W.heap.size W (W.alloc (.cells #[.int .i64 n, .int .i64 n, .slice Ai (n * n) ki, .int .i64 p, .int .i64 n, .slice Ac (p * n) kc] 24)) := (Below.refl _ _).alloc (Nat.le_refl _) _
  have hi2 := (hi.below hB).more hB.size
  have hc2 := (hc.below hB).more hB.size
  have hlt := hb.lt
  have ead : ∀ k, (⟨W.heap.size, 0, none⟩ : Addr).add k = ⟨W.heap.size, k, none⟩ := fun k => by unfold Addr.add; split <;> simp_all
  refine stack_any _ 2 2 [((n : Int), (n : Int), cellsTo n oneC (n * n)), ((p : Int), (n : Int), cellsTo n (cauC n) (p * n))] _ (by omega) ⟨rfl, fun _ => ⟨_, rfl, hlt, fun i hi => ?_⟩⟩ _ ?_ ?_
  · match i, hi with
    | 0, _ => exact ⟨Ai, n * n, ki, by rw [ead]; exact hb.cell 0, by rw [ead]; exact hb.cell 1, by rw [ead]; exact hb.cell 2, hki, hi2⟩
    | 1, _ => exact ⟨Ac, p * n, kc, by rw [ead]; exact hb.cell 3, by rw [ead]; exact hb.cell 4, by rw [ead]; exact hb.cell 5, hkc, hc2⟩
  · intro R out ho C hC e w' hm
    rw [stackGo_two n p hn] at ho
    injection ho with ho
    injection ho with h1 h2
    subst h1 h2
    have hC' : C = n := by
      have : stackC [((n : Int), (n : Int), cellsTo n oneC (n * n)), ((p : Int), (n : Int), cellsTo n (cauC n) (p * n))] = (n : Int) := rfl
      rw [this] at hC; omega
    subst hC'
    obtain ⟨A, k, he, ho, hb⟩ := hm
    exact ⟨A, k, he, own_base ho hB.size, below_then hB hb⟩
  · intro ho
    rw [stackGo_two n p hn] at ho
    cases ho
end Go.Proofs.Ytbokbndphpdgoaa
