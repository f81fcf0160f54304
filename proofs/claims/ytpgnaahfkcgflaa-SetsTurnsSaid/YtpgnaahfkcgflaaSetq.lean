/-
  The rest below a bound: plain, and both walked.
-/
import Derived.Test.YtpgnaahfkcgflaaSetn
import Derived.WalkSpells
namespace Go.Proofs.Ytpgnaahfkcgflaa
set_option linter.unusedSimpArgs false
set_option linter.unusedVariables false
open Go.RowKit

/-- a fresh slice is handed back -/
def SlRet (E : TypeId) (w : World) (n : Nat) (r : List Value) (e : Ending) (w' : World) : Prop := ∃ A c, e = .returned (.slice A n c) ∧ Fresh w w' E A n c r
theorem i64_one (l : List Int) : ∀ u ∈ l.map I64, u.oneCell' = true := by
  intro u hu
  obtain ⟨b, _, rfl⟩ := List.mem_map.1 hu
  rfl
theorem below_allocI {w W : World} (h : Below w.heap.size w W) (o : Obj) : Below w.heap.size w (W.alloc o) := h.alloc h.size o
/-- an empty slice that is not nil is owned -/
theorem own_empty (w : World) (base : Nat) (e : TypeId) (hb : base ≤ w.heap.size) : (w.alloc (.cells #[] e)).ownsRow base e 1 (.slice (some ⟨w.heap.size, 0, none⟩) 0 0) 0 [] :=
  World.ownsRow_made w #[] 0 hb (by unfold maxLen; omega) (by simp)
/-- a row stays where another one of another block grows -/
theorem own_other {w w' : World} {base n c : Nat} {A A' : Option Addr} {e : TypeId} {xs : List Value} (h : w.ownsRow base e 1 (.slice A n c) n xs) (hg : w.grownBy w' (A'.map (·.block))) (hne : A'.map (·.block) ≠ A.map (·.block)) : w'.ownsRow base e 1 (.slice A n c) n xs :=
  own_keep h fun a ha => by
    obtain ⟨cs, hc, _⟩ := own_at h a ha
    exact hg.block _ hc.lt fun e1 => hne (by rw [← e1, ha]; rfl)

set_option maxRecDepth 100000 in
theorem cloneI_any (A : Option Addr) (n c B : Nat) (xs : List Int) (w : World) (h : Reads w B 1 A n (xs.map I64)) (hB : B ≤ w.heap.size) (hn : n ≤ 1000000000000) :
    Calls Try.prog 31 #[.slice A n c] w (SlRet 3 w n (xs.map I64)) := by
  have he := fun W => Lib.run_eql_slice_nil (P := Try.prog) W 25 3 A n c 0 0 Try.underlying25
  obtain ⟨i0, hi, hz0, hz1, hz2⟩ := info_parts info_int
  replace hi := Lib.hid hi; replace hz0 := Lib.hid hz0; replace hz1 := Lib.hid hz1; replace hz2 := Lib.hid hz2
  have H := Lib.hid h
  cases A with
  | none =>
    have h0 : n = 0 := by
      rcases Nat.eq_zero_or_pos n with h0 | h0
      · exact h0
      · obtain ⟨ad, he, _⟩ := h.2 h0; cases he
    have hx : xs = [] := List.eq_nil_of_length_eq_zero (by have := h.1; simp at this; omega)
    subst h0
    subst hx
    simp only [Option.isNone] at he
    clear h hB hn
    go_enter Try.func31, Try.ntmps31
    go_wp2_with fail
    go_ret
    exact ⟨none, 0, rfl, Fresh.nil w _⟩
  | some ad =>
    simp only [Option.isNone] at he
    clear h
    go_enter Try.func31, Try.ntmps31
    go_wp2_with (at_builtin; refine wpList_append_any _ rfl (.tmp 5) (.tmp 6) 25 rfl w.heap.size 3 i0 (.int .i64 0) 1 8 Try.underlying25 hi.out hz0.out hz1.out hz2.out rfl (by omega) (some ⟨w.heap.size, 0, none⟩) 0 0 [] rfl (own_empty w _ _ (Nat.le_refl _)) B (some ad) n c _ rfl (H.out.alloc hB _) (i64_one _) ?_ ?_ ?_ ?_; rotate_left 3; intro A1 c1 w2 ho1 hg1 _hs1; have HB2 := Lib.hid (below_app (below_allocI (Below.refl _ _) _) hg1 (own_empty w _ _ (Nat.le_refl _)) (below_allocI (Below.refl _ w) _).size); replace ho1 := Lib.hid ho1; clear hg1 _hs1)
    rotate_left 1
    · unfold maxLen; omega
    · omega
    · exact (below_allocI (Below.refl _ w) _).size
    go_ret
    refine ⟨A1, c1, by simp, ?_, HB2.out⟩
    have h := ho1.out
    simpa using h


namespace Setp
/-- the numbers below m that aren't in the list -/
def up (l : List Int) : Nat → List Int
  | 0 => []
  | m + 1 => if (m : Int) ∈ l then up l m else up l m ++ [(m : Int)]
theorem up_len (l : List Int) : ∀ m, (up l m).length ≤ m
  | 0 => Nat.le_refl _
  | m + 1 => by
    unfold up
    have := up_len l m
    split
    · omega
    · rw [List.length_append]; simp; omega
theorem mem_up (l : List Int) (x : Int) : ∀ m, x ∈ up l m ↔ 0 ≤ x ∧ x < m ∧ x ∉ l
  | 0 => by simp [up]; omega
  | m + 1 => by
    unfold up
    have ih := mem_up l x m
    split
    · rename_i h
      rw [ih]
      constructor
      · rintro ⟨h1, h2, h3⟩; exact ⟨h1, by omega, h3⟩
      · rintro ⟨h1, h2, h3⟩
        refine ⟨h1, ?_, h3⟩
        by_cases e : x = m
        · rw [e] at h3; exact absurd h h3
        · omega
    · rename_i h
      rw [List.mem_append, ih, List.mem_singleton]
      constructor
      · rintro (⟨h1, h2, h3⟩ | h1)
        · exact ⟨h1, by omega, h3⟩
        · rw [h1]; exact ⟨by omega, by omega, h⟩
      · rintro ⟨h1, h2, h3⟩
        by_cases e : x = m
        · exact .inr e
        · exact .inl ⟨h1, by omega, h3⟩
/-- where the next number stands, k numbers being gone -/
def nx (l : List Int) : Nat → Nat
  | 0 => 0
  | k + 1 => (l.getD k 0 + 1).toNat
theorem nx_one (l : List Int) (k : Nat) : nx l (k + 1) = (l.getD k 0 + 1).toNat := rfl
def restOk (b : Int) (l : List Int) : Bool := decide (0 ≤ b) && decide (b ≤ 20000) && may l && l.all fun x => decide (x < b)
theorem ge_index {l : List Int} (h : may l = true) : ∀ j (hj : j < l.length), (j : Int) ≤ l[j]
  | 0, hj => by have := may_pos h 0 hj; omega
  | j + 1, hj => by
    have h1 := ge_index h j (by omega)
    have h2 := may_rising h j (j + 1) hj (by omega)
    omega
theorem len_le {l : List Int} {b : Nat} (h : may l = true) (hb : ∀ x ∈ l, x < (b : Int)) : l.length ≤ b := by
  rcases Nat.lt_or_ge b l.length with hl | hl
  · have h1 := ge_index h b hl
    have h2 := hb l[b] (List.getElem_mem hl)
    omega
  · exact hl
/-- the step from one number to the next -/
theorem up_run {l : List Int} (h : may l = true) {k : Nat} (hk : k ≤ l.length) (q : Nat) (h1 : nx l k ≤ q) (h2 : ∀ hk : k < l.length, (q : Int) < l[k]) : up l (q + 1) = up l q ++ [(q : Int)] := by
  have hno : (q : Int) ∉ l := by
    intro hm
    obtain ⟨j, hj, hq⟩ := List.getElem_of_mem hm
    rcases Nat.lt_or_ge j k with hjk | hjk
    · cases k with
      | zero => omega
      | succ k =>
        have e : l.getD k 0 = l[k]'(by omega) := by rw [List.getD_eq_getElem?_getD, List.getElem?_eq_getElem]; rfl
        rw [nx_one, e] at h1
        have h3 : l[j] ≤ l[k]'(by omega) := by
          by_cases e2 : j = k
          · subst e2; omega
          · have := may_rising h j k (by omega) (by omega); omega
        omega
    · have hkl : k < l.length := by omega
      have h3 := h2 hkl
      have h4 : l[k] ≤ l[j] := by
        by_cases e2 : k = j
        · subst e2; omega
        · have := may_rising h k j hj (by omega); omega
      omega
  show (if (q : Int) ∈ l then up l q else up l q ++ [(q : Int)]) = _
  rw [if_neg hno]
theorem nx_le {l : List Int} (h : may l = true) {k : Nat} (hk : k < l.length) : (nx l k : Int) ≤ l[k] := by
  cases k with
  | zero => have := may_pos h 0 hk; simpa [nx] using this
  | succ k =>
    have e : l.getD k 0 = l[k]'(by omega) := by rw [List.getD_eq_getElem?_getD, List.getElem?_eq_getElem]; rfl
    have h1 := may_rising h k (k + 1) hk (by omega)
    have h2 := may_pos h k (by omega)
    rw [nx_one, e]; omega
theorem nx_succ {l : List Int} (h : may l = true) {k : Nat} (hk : k < l.length) : (nx l (k + 1) : Int) = l[k] + 1 := by
  have e : l.getD k 0 = l[k] := by rw [List.getD_eq_getElem?_getD, List.getElem?_eq_getElem]; rfl
  have h2 := may_pos h k hk
  rw [nx_one, e]; omega
theorem up_mem {l : List Int} {x : Nat} (h : (x : Int) ∈ l) : up l (x + 1) = up l x := by
  show (if (x : Int) ∈ l then up l x else up l x ++ [(x : Int)]) = _
  rw [if_pos h]
/-- all that the walk needs of the k-th number of the list with the bound behind it -/
theorem rest_step {l : List Int} {b : Nat} (h : may l = true) (hb : ∀ x ∈ l, x < (b : Int)) (k : Nat) (hk : k ≤ l.length) : ∃ x : Nat, (l ++ [(b : Int)])[k]? = some (x : Int) ∧ x ≤ b ∧ nx (l ++ [(b : Int)]) k ≤ x ∧ nx (l ++ [(b : Int)]) (k + 1) = x + 1 ∧
    (∀ q, nx (l ++ [(b : Int)]) k ≤ q → q < x → up l (q + 1) = up l q ++ [(q : Int)]) ∧ up l (min (nx (l ++ [(b : Int)]) (k + 1)) b) = up l x ∧ up l (min (nx (l ++ [(b : Int)]) k) b) = up l (nx (l ++ [(b : Int)]) k) := by
  have hm : may (l ++ [(b : Int)]) = true := by
    have : ∀ (was : Int) (l : List Int), mayGo was l = true → (∀ x ∈ l, x < (b : Int)) → was < b → mayGo was (l ++ [(b : Int)]) = true := by
      intro was l
      induction l generalizing was with
      | nil => intro _ _ h; simp [mayGo, h]
      | cons y r ih =>
        intro h1 h2 h3
        simp only [mayGo, Bool.and_eq_true, decide_eq_true_eq] at h1
        simp only [List.cons_append, mayGo, Bool.and_eq_true, decide_eq_true_eq]
        exact ⟨h1.1, ih y h1.2 (fun x hx => h2 x (List.mem_cons_of_mem _ hx)) (h2 y (List.mem_cons_self ..))⟩
    exact this (-1) l h hb (by omega)
  have hlen : (l ++ [(b : Int)]).length = l.length + 1 := by simp
  have hkl : k < (l ++ [(b : Int)]).length := by omega
  have hp := may_pos hm k hkl
  have hnle := nx_le hm hkl
  have hns := nx_succ hm hkl
  have hle : (l ++ [(b : Int)])[k] ≤ b := by
    rw [List.getElem_append]
    split
    · rename_i hk2
      have := hb l[k] (List.getElem_mem hk2); omega
    · simp
  have hnk : ∀ j, j ≤ l.length → nx (l ++ [(b : Int)]) j = nx l j := by
    intro j hj
    cases j with
    | zero => rfl
    | succ j => rw [nx_one, nx_one, List.getD_eq_getElem?_getD, List.getD_eq_getElem?_getD, List.getElem?_append_left (by omega)]
  refine ⟨(l ++ [(b : Int)])[k].toNat, ?_, by omega, by omega, by omega, fun q h1 h2 => ?_, ?_, ?_⟩
  · rw [List.getElem?_eq_getElem hkl]; congr 1; omega
  · refine up_run h (k := k) hk q (by rw [← hnk k hk]; exact h1) (fun hk2 => ?_)
    have e : (l ++ [(b : Int)])[k] = l[k] := by rw [List.getElem_append_left]
    rw [← e]; omega
  · by_cases hk2 : k < l.length
    · have e : (l ++ [(b : Int)])[k] = l[k] := by rw [List.getElem_append_left]
      have h3 := hb l[k] (List.getElem_mem hk2)
      rw [show min (nx (l ++ [(b : Int)]) (k + 1)) b = (l ++ [(b : Int)])[k].toNat + 1 by omega]
      exact up_mem (by rw [show (((l ++ [(b : Int)])[k].toNat : Nat) : Int) = l[k] by omega]; exact List.getElem_mem hk2)
    · have e : (l ++ [(b : Int)])[k] = b := by rw [List.getElem_append_right (by omega)]; simp
      rw [show min (nx (l ++ [(b : Int)]) (k + 1)) b = (l ++ [(b : Int)])[k].toNat by omega]
  · rw [show min (nx (l ++ [(b : Int)]) k) b = nx (l ++ [(b : Int)]) k by omega]
end Setp
end Go.Proofs.Ytpgnaahfkcgflaa
