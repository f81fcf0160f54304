/-
  Rows of a matrix that is written in place: copy into a row of the call's own; rows of cells that a function tells.
-/
import Derived.Test.YtbokbndphpdgoaaMatk
import Derived.Test.YtbokbndphpdgoaaGfb
import Derived.Test.YtbokbndphpdgoaaReg
import Derived.Laws.CopyOwn
namespace Go.Proofs.Ytbokbndphpdgoaa
set_option linter.unusedSimpArgs false
set_option linter.unusedVariables false
open Go.RowKit

theorem grown_refl (w : World) (row : Option Nat) : w.grownBy w row := ⟨rfl, rfl, rfl, Nat.le_refl _, fun _ _ _ => rfl⟩
theorem add_zero_off (g j : Nat) : (⟨g, 0, none⟩ : Addr).add j = ⟨g, j, none⟩ := by unfold Addr.add; split <;> simp_all
theorem grown_setRow (w : World) (g : Nat) (cs : Array Value) : w.grownBy (w.setRow g cs) (some g) := ⟨rfl, rfl, rfl, by rw [size_setRow]; exact Nat.le_refl _, fun k _ hk => setRow_other w g k cs (fun e => hk (by rw [e]))⟩

theorem wpList_copy_in {P : Program} {w : World} {ops : Array Oper} {rest : List Oper} {o : Oper} {a : Act} {Q : Exit → Act → World → Prop} (hgd : o.guard = none) (d s : Operand) (dT sT : TypeId)
    (ho : o.op = .call { callee := .builtin .copy, args := #[d, s], argTypes := #[dT, sT] }) (elem : TypeId) (hu : P.underlying dT = some (.slice elem)) (hsz : (P.info? elem).map (·.size) = some 1)
    (A : Option Addr) (n c off C base dc : Nat) (xs : List Value) (hd : a.eval d = .slice (cutA A c off 1) C dc) (hown : w.ownsRow base elem 1 (.slice A n c) n xs) (hoff : off + C ≤ n)
    (sp : Option Addr) (sc : Nat) (hs : a.eval s = .slice sp C sc) (B : Nat) (news : List Value) (hr : Reads w B 1 sp C news) (h1 : ∀ u ∈ news, u.oneCell' = true)
    (h : ∀ w', w'.ownsRow base elem 1 (.slice A n c) n (splice xs off news) → w.grownBy w' (A.map (·.block)) → wpList P ops Q rest (a.put o.dst (goInt C)) w') :
    wpList P ops Q (o :: rest) a w := by
  have hnl : news.length = C := by have := hr.1; omega
  by_cases h0 : C = 0
  · subst h0
    obtain rfl : news = [] := List.eq_nil_of_length_eq_zero hnl
    refine wpList_copy_nothing hgd d s dT sT ho elem hu hsz _ _ _ _ _ _ hd hs (by simp) ?_
    exact h w (by simpa [splice] using hown) (grown_refl w _)
  · obtain ⟨ad, rfl, _, hcell⟩ := hr.2 (by omega)
    rcases hown.2 with ⟨_, hn0⟩ | ⟨g, cap, cur, hv, hbg, hg, hnc, hcm, hcur, htk⟩
    · omega
    · injection hv with hA _ hcap
      subst hcap
      subst hA
      have hcut : cutA (some ⟨g, 0, none⟩) c off 1 = some ⟨g, off, none⟩ := by
        unfold cutA
        rw [if_neg (by omega), Nat.mul_one, Option.map_some, add_zero_off]
      rw [hcut] at hd
      rw [Nat.mul_one] at hcur htk
      rw [← hnl] at h hd hs hoff
      refine wpList_copy_own hgd d s dT sT ho elem hu hsz g off _ dc ad _ sc hd hs cur elem hg news (by simp) hcell (by omega) h1 ?_
      refine h _ ⟨?_, Or.inr ⟨g, c, _, rfl, hbg, setRow_heap w g cur _ elem (0, 0) hg, hnc, hcm, ?_, ?_⟩⟩ (grown_setRow w g _)
      · have hl := hown.1
        rw [length_splice _ _ _ (by omega)]; exact hl
      · have hlen : cur.toList.length = c := by rw [Array.length_toList]; exact hcur
        simp only [List.size_toArray, List.length_append, List.length_take, List.length_drop, Nat.mul_one]
        omega
      · rw [Nat.mul_one]
        show (splice cur.toList off news).take n = splice xs off news
        rw [← htk]
        apply List.ext_getElem?
        intro t
        have hlen : cur.toList.length = c := by rw [Array.length_toList]; exact hcur
        simp only [splice, List.getElem?_append, List.getElem?_take, List.getElem?_drop, List.length_take, List.length_drop]
        rw [Nat.min_eq_left (show off ≤ cur.toList.length by omega), Nat.min_eq_left (show off ≤ min n cur.toList.length by omega)]
        by_cases hA : t < off
        · simp only [hA, show t < n by omega, if_true]
        · by_cases hB : t - off < news.length
          · rw [if_pos (show t < n by omega), if_neg hA, if_pos hB, if_neg hA, if_pos hB]
          · rw [if_neg hA, if_neg hB, if_neg hA, if_neg hB]
            by_cases hC : t < n
            · rw [if_pos hC, if_pos (show off + news.length + (t - off - news.length) < n by omega)]
            · rw [if_neg hC, if_neg (show ¬ off + news.length + (t - off - news.length) < n by omega)]

theorem splice_map {α β : Type} (f : α → β) (l : List α) (off : Nat) (c : List α) : (splice l off c).map f = splice (l.map f) off (c.map f) := by
  simp [splice, List.map_take, List.map_drop]
theorem splice_get {α : Type} (l : List α) (off : Nat) (c : List α) (t : Nat) (h : off ≤ l.length) : (splice l off c)[t]? = if t < off then l[t]? else if t < off + c.length then c[t - off]? else l[t]? := by
  simp only [splice, List.getElem?_append, List.getElem?_take, List.getElem?_drop, List.length_take]
  rw [Nat.min_eq_left h]
  by_cases h1 : t < off
  · rw [if_pos h1, if_pos h1, if_pos h1]
  · rw [if_neg h1, if_neg h1]
    by_cases h2 : t < off + c.length
    · rw [if_pos (by omega), if_pos h2]
    · rw [if_neg (by omega), if_neg h2]
      congr 1; omega
theorem cellsTo_get (C : Nat) (f : Nat → Nat → UInt8) (n t : Nat) (h : t < n) : (cellsTo C f n)[t]? = some (f (t / C) (t % C)) := by
  unfold cellsTo
  rw [List.getElem?_map, List.getElem?_range h]; rfl
theorem cellsTo_none (C : Nat) (f : Nat → Nat → UInt8) (n t : Nat) (h : ¬ t < n) : (cellsTo C f n)[t]? = none := List.getElem?_eq_none (by rw [cellsTo_len]; omega)
/-- a row of the cells, told by a function -/
def rowF (C : Nat) (g : Nat → UInt8) : List UInt8 := (List.range C).map g
theorem rowF_len (C : Nat) (g : Nat → UInt8) : (rowF C g).length = C := by simp [rowF]
theorem rowF_get (C : Nat) (g : Nat → UInt8) (t : Nat) (h : t < C) : (rowF C g)[t]? = some (g t) := by
  unfold rowF
  rw [List.getElem?_map, List.getElem?_range h]; rfl
theorem row_lt {R C i t : Nat} (hi : i < R) (ht : t < C) : i * C + t < R * C := by
  have hle : (i + 1) * C ≤ R * C := Nat.mul_le_mul_right _ hi
  rw [Nat.succ_mul] at hle; omega
theorem div_row {C i t : Nat} (ht : t < C) : (i * C + t) / C = i ∧ (i * C + t) % C = t := by
  constructor
  · rw [Nat.mul_comm, Nat.mul_add_div (by omega), Nat.div_eq_of_lt ht, Nat.add_zero]
  · rw [Nat.mul_comm, Nat.mul_add_mod, Nat.mod_eq_of_lt ht]
theorem rowC_cellsTo (R C i : Nat) (f : Nat → Nat → UInt8) (hi : i < R) : rowC (cellsTo C f (R * C)) C i = rowF C (f i) := by
  apply List.ext_getElem?
  intro t
  unfold rowC
  rw [List.getElem?_take, List.getElem?_drop]
  by_cases ht : t < C
  · rw [if_pos ht, cellsTo_get _ _ _ _ (row_lt hi ht), rowF_get _ _ _ ht, (div_row ht).1, (div_row ht).2]
  · rw [if_neg ht, List.getElem?_eq_none (by rw [rowF_len]; omega)]
theorem put_cellsTo (R C i : Nat) (f : Nat → Nat → UInt8) (g : Nat → UInt8) (hi : i < R) : splice (cellsTo C f (R * C)) (i * C) (rowF C g) = cellsTo C (fun i' j => if i' = i then g j else f i' j) (R * C) := by
  have hle : (i + 1) * C ≤ R * C := Nat.mul_le_mul_right _ hi
  rw [Nat.succ_mul] at hle
  apply List.ext_getElem?
  intro t
  rw [splice_get _ _ _ _ (by rw [cellsTo_len]; omega), rowF_len]
  by_cases h1 : t < R * C
  · have hC : 0 < C := by
      rcases Nat.eq_zero_or_pos C with h0 | h0
      · rw [h0, Nat.mul_zero] at h1; omega
      · exact h0
    rw [cellsTo_get _ _ _ _ h1, cellsTo_get _ _ _ _ h1]
    have hdm := Nat.div_add_mod t C
    have hml := Nat.mod_lt t hC
    rw [Nat.mul_comm] at hdm
    by_cases h2 : t < i * C
    · rw [if_pos h2]
      have hd : t / C < i := (Nat.div_lt_iff_lt_mul hC).2 h2
      rw [if_neg (by omega)]
    · rw [if_neg h2]
      by_cases h3 : t < i * C + C
      · rw [if_pos h3, rowF_get _ _ _ (by omega)]
        obtain ⟨s, hs⟩ : ∃ s, t = i * C + s := ⟨t - i * C, by omega⟩
        rw [hs, (div_row (show s < C by omega)).1, (div_row (show s < C by omega)).2, if_pos rfl]
        congr 2; omega
      · rw [if_neg h3]
        have hd : i + 1 ≤ t / C := (Nat.le_div_iff_mul_le hC).2 (by rw [Nat.succ_mul]; omega)
        rw [if_neg (by omega)]
  · rw [cellsTo_none _ _ _ _ h1, if_neg (by omega), if_neg (by omega), cellsTo_none _ _ _ _ h1]
theorem cellsTo_congr (R C : Nat) (f g : Nat → Nat → UInt8) (h : ∀ i j, i < R → j < C → f i j = g i j) : cellsTo C f (R * C) = cellsTo C g (R * C) := by
  unfold cellsTo
  apply List.map_congr_left
  intro t ht
  have ht' := List.mem_range.1 ht
  have hC : 0 < C := by
    rcases Nat.eq_zero_or_pos C with h0 | h0
    · rw [h0, Nat.mul_zero] at ht'; omega
    · exact h0
  exact h _ _ ((Nat.div_lt_iff_lt_mul hC).2 ht') (Nat.mod_lt _ hC)
/-- cells of any list, as a function of row and column -/
def cellAt (bs : List UInt8) (C i j : Nat) : UInt8 := bs.getD (i * C + j) 0
theorem cellsTo_of (bs : List UInt8) (R C : Nat) (h : bs.length = R * C) : bs = cellsTo C (cellAt bs C) (R * C) := by
  apply List.ext_getElem?
  intro t
  by_cases h1 : t < R * C
  · rw [cellsTo_get _ _ _ _ h1, cellAt, Nat.mul_comm, Nat.div_add_mod, List.getD_eq_getElem?_getD, List.getElem?_eq_getElem (by omega)]; rfl
  · rw [cellsTo_none _ _ _ _ h1, List.getElem?_eq_none (by omega)]
theorem rowC_at (bs : List UInt8) (R C i : Nat) (h : bs.length = R * C) (hi : i < R) : rowC bs C i = rowF C (cellAt bs C i) := by
  conv => lhs; rw [cellsTo_of bs R C h]
  exact rowC_cellsTo R C i _ hi
theorem addL_rowF (C : Nat) (f g : Nat → UInt8) (c : UInt8) : addL (rowF C f) c (rowF C g) = rowF C (fun j => f j ^^^ fm c (g j)) := by
  apply list_ext_getD
  · rw [addL_length, rowF_len, rowF_len]
  · intro t ht
    have ht' := ht
    rw [addL_length, rowF_len] at ht'
    rw [addL_getD _ _ _ _ (by rw [rowF_len]; exact ht')]
    simp only [List.getD_eq_getElem?_getD, rowF_get _ _ _ ht', Option.getD_some]
end Go.Proofs.Ytbokbndphpdgoaa
