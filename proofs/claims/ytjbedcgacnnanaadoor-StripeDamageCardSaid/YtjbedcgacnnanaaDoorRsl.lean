/-
  The rows picked of the matrix that makes all parts, and their inverse: the program's and the document's functions. Two lists, one behind the other.
-/
import Derived.Test.YtjbedcgacnnanaaDoorRsk
import Derived.Test.YtjbedcgacnnanaaDoorMatj
import Derived.Test.YtjbedcgacnnanaaDoorBi
import Derived.Test.YtjbedcgacnnanaaDoorBo
namespace Go.Proofs.YtjbedcgacnnanaaDoor
set_option linter.unusedSimpArgs false
set_option linter.unusedVariables false
open Go.RowKit

theorem nv_i64 (P : List Nat) : P.map NV = (P.map fun (x : Nat) => (x : Int)).map I64 := by rw [List.map_map]; rfl
section
variable {n p : Nat} {P : List Nat}
theorem pick_whole (hn : n + p ≤ 255) (hl : P.length = n) (hP : ∀ x ∈ P, x < n + p) (W : World) (Aw Ap : Option Addr) (kw kp : Nat) (h2 : (n + p) * n ≤ kw) (h1 : Reads W W.heap.size 1 Aw ((n + p) * n) ((cellsTo n (Lin.wholeC n) ((n + p) * n)).map B8)) (h3 : Reads W W.heap.size 1 Ap n (P.map NV)) :
    Calls Tryd.prog 65 #[.agg #[.int .i64 ((n + p : Nat) : Int), .int .i64 n, .slice Aw ((n + p) * n) kw], .slice Ap n kp] W (MRet W n n (cellsTo n (fun i j => Lin.wholeC n (P.getD i 0) j) (n * n)) 0) := by
  have hg := pickGo_nat (cellsTo n (Lin.wholeC n) ((n + p) * n)) (n + p) n (Lin.wholeC n) rfl P [] hP
  rw [flat_all, hl, List.nil_append] at hg
  rw [nv_i64] at h3
  refine pick_in (n + p) n Aw Ap ((n + p) * n) kw n kp _ _ W (by omega) (by omega) rfl h2 (by omega) h1 h3 _ (fun out ho e w' hm => ?_) (fun ho => ?_)
  · rw [hg] at ho
    injection ho with ho
    subst ho
    exact hm
  · rw [hg] at ho
    cases ho
theorem refPick_whole (hn : n + p ≤ 255) (hl : P.length = n) (hP : ∀ x ∈ P, x < n + p) (W : World) (Aw Ap : Option Addr) (kw kp : Nat) (h2 : (n + p) * n ≤ kw) (h1 : Reads W W.heap.size 1 Aw ((n + p) * n) ((cellsTo n (Lin.wholeC n) ((n + p) * n)).map B8)) (h3 : Reads W W.heap.size 1 Ap n (P.map NV)) :
    Calls Tryd.prog 52 #[.agg #[.int .i64 ((n + p : Nat) : Int), .int .i64 n, .slice Aw ((n + p) * n) kw], .slice Ap n kp] W (MRet W n n (cellsTo n (fun i j => Lin.wholeC n (P.getD i 0) j) (n * n)) 0) := by
  have hg := pickGo_nat (cellsTo n (Lin.wholeC n) ((n + p) * n)) (n + p) n (Lin.wholeC n) rfl P [] hP
  rw [flat_all, hl, List.nil_append] at hg
  rw [nv_i64] at h3
  refine refPick_in (n + p) n Aw Ap ((n + p) * n) kw n kp _ _ W (by omega) (by omega) rfl h2 (by omega) h1 h3 _ (fun out ho e w' hm => ?_) (fun ho => ?_)
  · rw [hg] at ho
    injection ho with ho
    subst ho
    exact hm
  · rw [hg] at ho
    cases ho
theorem inv_sub (hn : n + p ≤ 255) (hl : P.length = n) (hnd : P.Nodup) (hP : ∀ x ∈ P, x < n + p) (W : World) (As : Option Addr) (ks : Nat) (h1 : Reads W W.heap.size 1 As (n * n) ((cellsTo n (fun i j => Lin.wholeC n (P.getD i 0) j) (n * n)).map B8)) :
    Calls Tryd.prog 67 #[.agg #[.int .i64 n, .int .i64 n, .slice As (n * n) ks]] W (MRet W n n (cellsTo n (Rsp.backF n P) (n * n)) 0) := by
  refine (inverse_in n As (n * n) ks _ W (by omega) rfl h1).mono fun e w' hr => ?_
  rw [Rsp.back_some (p := p) (by omega) hl hnd hP] at hr
  exact hr
theorem refInv_sub (hn : n + p ≤ 255) (hl : P.length = n) (hnd : P.Nodup) (hP : ∀ x ∈ P, x < n + p) (W : World) (As : Option Addr) (ks : Nat) (h1 : Reads W W.heap.size 1 As (n * n) ((cellsTo n (fun i j => Lin.wholeC n (P.getD i 0) j) (n * n)).map B8)) :
    Calls Tryd.prog 53 #[.agg #[.int .i64 n, .int .i64 n, .slice As (n * n) ks]] W (MRet W n n (cellsTo n (Rsp.backF n P) (n * n)) 0) := by
  refine (refInverse_in n As (n * n) ks _ W (by omega) rfl h1).mono fun e w' hr => ?_
  rw [Rsp.back_some (p := p) (by omega) hl hnd hP] at hr
  exact hr
end
/-- the document's Stack of the identity and Cauchy's matrix, in a box of the call's own -/
theorem refStack2 {W : World} {Ai Ac : Option Addr} {ki kc n p : Nat} (hn : n + p ≤ 255) (hi : Reads W W.heap.size 1 Ai (n * n) ((cellsTo n oneC (n * n)).map B8)) (hc : Reads W W.heap.size 1 Ac (p * n) ((cellsTo n (cauC n) (p * n)).map B8)) (hki : n * n ≤ ki) (hkc : p * n ≤ kc) :
    Calls Tryd.prog 51 #[.slice (some ⟨W.heap.size, 0, none⟩) 2 2] (W.alloc (.cells #[.int .i64 n, .int .i64 n, .slice Ai (n * n) ki, .int .i64 p, .int .i64 n, .slice Ac (p * n) kc] 75)) (MRet W (n + p) n (cellsTo n (Lin.wholeC n) ((n + p) * n)) 0) := by
  have hb := Blk.new W 75 #[.int .i64 n, .int .i64 n, .slice Ai (n * n) ki, .int .i64 p, .int .i64 n, .slice Ac (p * n) kc]
  have hB : Below W.heap.size W (W.alloc (.cells #[.int .i64 n, .int .i64 n, .slice Ai (n * n) ki, .int .i64 p, .int .i64 n, .slice Ac (p * n) kc] 75)) := (Below.refl _ _).alloc (Nat.le_refl _) _
  have hi2 := (hi.below hB).more hB.size
  have hc2 := (hc.below hB).more hB.size
  have hlt := hb.lt
  have ead : ∀ k, (⟨W.heap.size, 0, none⟩ : Addr).add k = ⟨W.heap.size, k, none⟩ := fun k => by unfold Addr.add; split <;> simp_all
  refine refStack_any _ 2 2 [((n : Int), (n : Int), cellsTo n oneC (n * n)), ((p : Int), (n : Int), cellsTo n (cauC n) (p * n))] _ (by omega) ⟨rfl, fun _ => ⟨_, rfl, hlt, fun i hi => ?_⟩⟩ _ ?_ ?_
  · match i, hi with
    | 0, _ => exact ⟨Ai, n * n, ki, by rw [ead]; exact hb.cell 0, by rw [ead]; exact hb.cell 1, by rw [ead]; exact hb.cell 2, hki, hi2⟩
    | 1, _ => exact ⟨Ac, p * n, kc, by rw [ead]; exact hb.cell 3, by rw [ead]; exact hb.cell 4, by rw [ead]; exact hb.cell 5, hkc, hc2⟩
  · intro R out ho C hC e w' hm
    rw [stackGo_two n p hn] at ho
    injection ho with ho
    injection ho with h1 h2
    subst h1 h2
    have hC' : C = n := by
      have : stackC [((n : Int), (n : Int), cellsTo n oneC (n * n)), ((p : Int), (n : Int), cellsTo n (cauC n) (p * n))] = (n : Int) := rfl
      rw [this] at hC; omega
    subst hC'
    obtain ⟨A, k, he, ho, hb⟩ := hm
    exact ⟨A, k, he, own_base ho hB.size, below_then hB hb⟩
  · intro ho
    rw [stackGo_two n p hn] at ho
    cases ho

/-- the slices of a list of lists, and the lists that they read as -/
theorem Rows8.vals {w : World} {B n : Nat} {A : Option Addr} {xss : List (List UInt8)} (h : Rows8 w B A n xss) : ∃ vs : List Value, vs.length = n ∧ Reads w B 1 A n vs ∧ (∀ u ∈ vs, u.oneCell' = true) ∧ ∀ (i : Nat) (xs : List UInt8), xss[i]? = some xs → ∃ (Ai : Option Addr) (ni ci : Nat), vs[i]? = some (.slice Ai ni ci) ∧ ni ≤ ci ∧ ci ≤ maxLen ∧ Reads w B 1 Ai ni (xs.map B8) := by
  obtain ⟨vs, h1, h2, h3⟩ := h
  have hl : vs.length = n := by have := h1.1; omega
  refine ⟨vs, hl, h1, fun u hu => ?_, h3⟩
  obtain ⟨i, hi, rfl⟩ := List.getElem_of_mem hu
  obtain ⟨Ai, ni, ci, e, _⟩ := h3 i _ (List.getElem?_eq_getElem (by omega : i < xss.length))
  rw [List.getElem?_eq_getElem hi] at e
  injection e with e
  rw [e]; rfl
/-- a list of the call's own, of older rows -/
structure Cat (W : World) (B base : Nat) (A : Option Addr) (n c : Nat) (xss : List (List UInt8)) : Prop where
  ex : ∃ vs : List Value, W.ownsRow base 27 1 (.slice A n c) n vs ∧ xss.length = n ∧ ∀ (i : Nat) (xs : List UInt8), xss[i]? = some xs → ∃ (Ai : Option Addr) (ci : Nat), vs[i]? = some (.slice Ai xs.length ci) ∧ xs.length ≤ ci ∧ ci ≤ maxLen ∧ Reads W B 1 Ai xs.length (xs.map B8)
/-- what was there in W8 is so still, but for block g7; the row A lies in g7 or beyond -/
structure Aside (W8 wr : World) (g7 : Nat) (A : Option Addr) : Prop where
  size : W8.heap.size ≤ wr.heap.size
  heap : ∀ g, g < W8.heap.size → g ≠ g7 → wr.heap[g]? = W8.heap[g]?
  row : ∀ g, A.map (·.block) = some g → g = g7 ∨ W8.heap.size ≤ g
theorem Aside.start (W : World) (g : Nat) : Aside W W g (some ⟨g, 0, none⟩) := ⟨Nat.le_refl _, fun _ _ _ => rfl, fun k hk => by injection hk with hk; exact .inl hk.symm⟩
theorem Aside.below {W8 wr w9 : World} {g7 : Nat} {A : Option Addr} (h : Aside W8 wr g7 A) (hB : Below wr.heap.size wr w9) : Aside W8 w9 g7 A :=
  ⟨Nat.le_trans h.size hB.size, fun g hg hne => (hB.block g (Nat.lt_of_lt_of_le hg h.size)).trans (h.heap g hg hne), h.row⟩
theorem Aside.app {W8 W w4 : World} {g7 : Nat} {A A3 : Option Addr} {C : Obj} (h : Aside W8 W g7 A) (hg : (W.alloc C).grownBy w4 (A.map (·.block))) (hs : Stays (W.alloc C) A A3) : Aside W8 w4 g7 A3 := by
  have h2 : Aside W8 (W.alloc C) g7 A := h.below ((Below.refl _ _).alloc (Nat.le_refl _) C)
  refine ⟨Nat.le_trans h2.size hg.size, fun g hlt hne => (hg.block g (Nat.lt_of_lt_of_le hlt h2.size) (fun e => ?_)).trans (h2.heap g hlt hne), fun g hgA => ?_⟩
  · rcases h.row g e.symm with h0 | h0
    · exact hne h0
    · omega
  · rcases hs with h0 | h0
    · exact h.row g (h0 ▸ hgA)
    · rw [h0] at hgA
      injection hgA with hgA
      exact .inr (hgA ▸ h2.size)
theorem Cat.row {W8 wr : World} {B base n c j g7 : Nat} {A A21 : Option Addr} {xss : List (List UInt8)} (h : Cat W8 B base A n c xss) (hBg : B ≤ g7) (hg : g7 < base) (hB8 : B ≤ W8.heap.size) (hA : Aside W8 wr g7 A21) (hj : j < n) :
    ∃ ad xs Ai ci, A = some ad ∧ xss[j]? = some xs ∧ wr.cell? (ad.add j) = some (.slice Ai xs.length ci) ∧ xs.length ≤ ci ∧ ci ≤ maxLen ∧ Reads wr B 1 Ai xs.length (xs.map B8) := by
  obtain ⟨vs, h1, h2, h3⟩ := h.ex
  obtain ⟨ad, u, hAd, hlt, hu, hc⟩ := (Reads.of_own h1).at_ hj
  obtain ⟨Ai, ci, e, a1, a2, a3⟩ := h3 j _ (List.getElem?_eq_getElem (by omega : j < xss.length))
  rw [hu] at e
  injection e with e
  subst e
  refine ⟨ad, _, Ai, ci, hAd, List.getElem?_eq_getElem (by omega), ?_, a1, a2, a3.keep fun p hp => World.cell?_of_block (hA.heap p.block (by omega) (by omega))⟩
  rw [← hc]
  have hb := (h1.lt ad.block (by rw [hAd]; rfl)).1
  exact World.cell?_of_block (hA.heap _ (by rw [block_of_add]; exact hlt) (by rw [block_of_add]; omega))
/-- Concat of two lists in a box of the call's own -/
theorem concat2 {W : World} {B : Nat} {A1 A2 : Option Addr} {n1 n2 c1 c2 : Nat} {xss yss : List (List UInt8)} (hBW : B ≤ W.heap.size) (h1 : Rows8 W B A1 n1 xss) (h2 : Rows8 W B A2 n2 yss) (hn : n1 + n2 ≤ 100000) :
    Calls Tryd.prog 68 #[.slice (some ⟨W.heap.size, 0, none⟩) 2 2] (W.alloc (.cells #[.slice A1 n1 c1, .slice A2 n2 c2] 55)) fun e w' => ∃ A c, e = .returned (.slice A (n1 + n2) c) ∧ Cat w' B W.heap.size A (n1 + n2) c (xss ++ yss) ∧ Below W.heap.size W w' := by
  have hb := Blk.new W 55 #[.slice A1 n1 c1, .slice A2 n2 c2]
  have hB : Below W.heap.size W (W.alloc (.cells #[.slice A1 n1 c1, .slice A2 n2 c2] 55)) := (Below.refl _ _).alloc (Nat.le_refl _) _
  have hx1 : xss.length = n1 := h1.choose_spec.2.1
  have h1' := h1.below (hB.mono hBW)
  have h2' := h2.below (hB.mono hBW)
  generalize W.alloc (.cells #[.slice A1 n1 c1, .slice A2 n2 c2] 55) = W2 at *
  obtain ⟨vs1, l1, r1, o1, q1⟩ := h1'.vals
  obtain ⟨vs2, l2, r2, o2, q2⟩ := h2'.vals
  have hs : Slabs W2 W2.heap.size (some ⟨W.heap.size, 0, none⟩) 2 [vs1, vs2] := by
    refine ⟨rfl, fun j hj => ?_⟩
    match j, hj with
    | 0, _ => exact ⟨_, A1, n1, c1, vs1, rfl, rfl, by rw [add_zero_off]; exact hb.cell 0, r1.more (Nat.le_trans hBW hB.size), o1⟩
    | 1, _ => exact ⟨_, A2, n2, c2, vs2, rfl, rfl, by rw [add_zero_off]; exact hb.cell 1, r2.more (Nat.le_trans hBW hB.size), o2⟩
  have ht : total [vs1, vs2] = n1 + n2 := by simp [total, l1, l2]
  refine (concatL_any _ 2 2 [vs1, vs2] W2 (by omega) (by rw [ht]; omega) hs).mono ?_
  rintro e w' ⟨A, c, rfl, ho, hB2⟩
  rw [ht] at ho ⊢
  have hf : [vs1, vs2].flatten = vs1 ++ vs2 := by simp
  rw [hf] at ho
  have hB3 : Below B W2 w' := hB2.mono (Nat.le_trans hBW hB.size)
  refine ⟨A, c, rfl, ⟨vs1 ++ vs2, own_base ho hB.size, ?_, fun i xs hi => ?_⟩, below_then hB hB2⟩
  · have hx2 : yss.length = n2 := h2.choose_spec.2.1
    rw [List.length_append, hx1, hx2]
  · by_cases e : i < n1
    · rw [List.getElem?_append_left (by omega)] at hi
      obtain ⟨Ai, ni, ci, a1, a2, a3, a4⟩ := q1 i xs hi
      have hl := a4.len
      subst hl
      exact ⟨Ai, ci, by rw [List.getElem?_append_left (by omega)]; exact a1, a2, a3, a4.below hB3⟩
    · rw [List.getElem?_append_right (by omega), hx1] at hi
      obtain ⟨Ai, ni, ci, a1, a2, a3, a4⟩ := q2 _ xs hi
      have hl := a4.len
      subst hl
      exact ⟨Ai, ci, by rw [List.getElem?_append_right (by omega), l1]; exact a1, a2, a3, a4.below hB3⟩
end Go.Proofs.YtjbedcgacnnanaaDoor
