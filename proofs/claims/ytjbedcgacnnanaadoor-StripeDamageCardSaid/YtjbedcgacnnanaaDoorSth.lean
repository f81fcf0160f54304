/-
  A list of rows of the call's own beside a row that grows; Lay where the shape is refused; bytes behind the end, plainly.
-/
import Derived.Test.YtjbedcgacnnanaaDoorSte
namespace Go.Proofs.YtjbedcgacnnanaaDoor
set_option linter.unusedSimpArgs false
set_option linter.unusedVariables false
open Go.RowKit

/-- a list of rows, all of the call's own; none of them lies in the block O -/
structure Lst (W : World) (base : Nat) (A : Option Addr) (n c : Nat) (xss : List (List UInt8)) (O : Option Addr) : Prop where
  ex : ∃ vs : List Value, W.ownsRow base 27 1 (.slice A n c) n vs ∧ xss.length = n ∧ ∀ (i : Nat) (xs : List UInt8), xss[i]? = some xs → ∃ (Ai : Option Addr) (ci : Nat), vs[i]? = some (.slice Ai xs.length ci) ∧ W.ownsRow base 5 1 (.slice Ai xs.length ci) xs.length (xs.map B8) ∧ Apart Ai O
  bs : base ≤ W.heap.size
section
variable {W W4 : World} {base n c : Nat} {A O : Option Addr} {xss : List (List UInt8)}
theorem Lst.nil (W : World) (base : Nat) (O : Option Addr) (hb : base ≤ W.heap.size) : Lst W base none 0 0 [] O := ⟨⟨[], World.ownsRow_nil _ _ _ _, rfl, fun i xs hi => by simp at hi⟩, hb⟩
theorem Lst.lists (h : Lst W base A n c xss O) : Lists W 0 base A n c xss := by
  obtain ⟨⟨vs, h1, h2, h3⟩, hb⟩ := h
  refine ⟨⟨vs, h1, h2, fun i xs hi => ?_⟩, hb, Nat.zero_le _⟩
  obtain ⟨Ai, ci, a1, a2, _⟩ := h3 i xs hi
  exact ⟨Ai, ci, a1, (own_cap a2).1, (own_cap a2).2, .inr a2⟩
theorem Lst.below (h : Lst W base A n c xss O) (hB : Below W.heap.size W W4) : Lst W4 base A n c xss O := by
  obtain ⟨⟨vs, h1, h2, h3⟩, hb⟩ := h
  refine ⟨⟨vs, own_belowL h1 hB, h2, fun i xs hi => ?_⟩, Nat.le_trans hb hB.size⟩
  obtain ⟨Ai, ci, a1, a2, a3⟩ := h3 i xs hi
  exact ⟨Ai, ci, a1, own_belowL a2 hB, a3⟩
/-- the row apart grows -/
theorem Lst.grow {O3 : Option Addr} {base' n' c' : Nat} {ys : List Value} (h : Lst W base A n c xss O) (ho : W.ownsRow base' 5 1 (.slice O n' c') n' ys) (hg : W.grownBy W4 (O.map (·.block))) (hs : Stays W O O3) : Lst W4 base A n c xss O3 := by
  obtain ⟨⟨vs, h1, h2, h3⟩, hb⟩ := h
  refine ⟨⟨vs, ownsRow_block h1 (fun a ha => ?_), h2, fun i xs hi => ?_⟩, Nat.le_trans hb hg.size⟩
  · obtain ⟨cs, fr, hh⟩ := own_row h1 a.block (by rw [ha]; rfl)
    refine hg.block _ (lt_of_heap hh) (fun e => ?_)
    obtain ⟨cs', fr', hh'⟩ := own_row ho a.block e.symm
    rw [hh] at hh'
    injection hh' with hh'
    injection hh' with _ ht
    exact absurd ht (by decide)
  · obtain ⟨Ai, ci, a1, a2, a3⟩ := h3 i xs hi
    refine ⟨Ai, ci, a1, ownsRow_block a2 (fun a ha => ?_), (a3.sym.grow (own_lt a2) hs).sym⟩
    obtain ⟨cs, fr, hh⟩ := own_row a2 a.block (by rw [ha]; rfl)
    exact hg.block _ (lt_of_heap hh) (fun e => a3 a.block (by rw [ha]; rfl) e.symm)
/-- one row more -/
theorem Lst.push {cr c3 L : Nat} {A3 Ar : Option Addr} {xs : List UInt8} {vs : List Value} (hl : xs.length = L) (hr : W.ownsRow base 5 1 (.slice Ar L cr) L (xs.map B8)) (ha : Apart Ar O)
    (h1 : W.ownsRow base 27 1 (.slice A n c) n vs) (h2 : xss.length = n) (h3 : ∀ (i : Nat) (xs : List UInt8), xss[i]? = some xs → ∃ (Ai : Option Addr) (ci : Nat), vs[i]? = some (.slice Ai xs.length ci) ∧ W.ownsRow base 5 1 (.slice Ai xs.length ci) xs.length (xs.map B8) ∧ Apart Ai O) (hb : base ≤ W.heap.size)
    (ho4 : W4.ownsRow base 27 1 (.slice A3 (n + 1) c3) (n + 1) (vs ++ [.slice Ar L cr])) (hg4 : W.grownBy W4 (A.map (·.block))) : Lst W4 base A3 (n + 1) c3 (xss ++ [xs]) O := by
  subst hl
  have keep : ∀ (A' : Option Addr) (c' : Nat) (ys : List UInt8), W.ownsRow base 5 1 (.slice A' ys.length c') ys.length (ys.map B8) → W4.ownsRow base 5 1 (.slice A' ys.length c') ys.length (ys.map B8) := fun A' c' ys ho =>
    ownsRow_block ho (fun a ha => by
      obtain ⟨cs, fr, hh⟩ := own_row ho a.block (by rw [ha]; rfl)
      refine hg4.block _ (lt_of_heap hh) (fun e => ?_)
      obtain ⟨cs', fr', hh'⟩ := own_row h1 a.block e.symm
      rw [hh] at hh'
      injection hh' with hh'
      injection hh' with _ ht
      exact absurd ht (by decide))
  have hl : vs.length = n := by have := h1.1; omega
  refine ⟨⟨_, ho4, by simp [h2], fun i ys hi => ?_⟩, Nat.le_trans hb hg4.size⟩
  by_cases e : i < n
  · rw [List.getElem?_append_left (by omega)] at hi
    obtain ⟨Ai, ci, a1, a2, a3⟩ := h3 i ys hi
    exact ⟨Ai, ci, by rw [List.getElem?_append_left (by omega)]; exact a1, keep _ _ _ a2, a3⟩
  · have hin : i = n := by
      have := (List.getElem?_eq_some_iff.1 hi).1
      simp at this; omega
    subst hin
    rw [List.getElem?_append_right (by omega), h2, Nat.sub_self] at hi
    have : ys = xs := by simpa using hi.symm
    subst this
    exact ⟨Ar, cr, by rw [List.getElem?_append_right (by omega), hl, Nat.sub_self]; rfl, keep _ _ _ hr, ha⟩
end
theorem Apart.newer {Ar O : Option Addr} {g : Nat} (h1 : ∀ k, Ar.map (·.block) = some k → g ≤ k) (h2 : ∀ k, O.map (·.block) = some k → k < g) : Apart Ar O := fun k a b => by
  have := h1 k a
  have := h2 k b
  omega
namespace Stp
/-- the byte p, 0 behind the end -/
def byteAt (b : List UInt8) (p : Nat) : UInt8 := b.getD p 0
theorem padB_at {d p : Nat} {b : List UInt8} (hp : p < (padB d b).length) : (padB d b)[p]? = some (byteAt b p) := by
  unfold padB byteAt
  unfold padB at hp
  rw [List.getD_eq_getElem?_getD]
  by_cases h : p < b.length
  · rw [List.getElem?_append_left h, List.getElem?_eq_getElem h]; rfl
  · rw [List.length_append, List.length_replicate] at hp
    rw [List.getElem?_append_right (by omega), List.getElem?_replicate, if_pos (by omega), List.getElem?_eq_none (by omega)]; rfl
/-- a part's first bytes -/
theorem part_step {P : List UInt8} {s q : Nat} {x : UInt8} (h : P[s + q]? = some x) : (P.drop s).take (q + 1) = (P.drop s).take q ++ [x] := by
  rw [List.take_add_one, List.getElem?_drop, h]; rfl
theorem part_chunk {P : List UInt8} {a d j ch : Nat} (h : (j + 1) * ch ≤ d) : (P.drop (a + j * ch)).take ch = chunkB ((P.drop a).take d) ch j := by
  unfold chunkB
  rw [List.drop_take, List.drop_drop, List.take_take, Nat.min_eq_left (by rw [Nat.succ_mul] at h; omega)]
theorem parts_step (k ch j : Nat) (b : List UInt8) : partsB (j + 1) ch b = partsB j ch b ++ [chunkB b ch j] := by
  unfold partsB
  rw [List.range_succ, List.map_append]; rfl
end Stp
set_option maxRecDepth 100000 in
set_option maxHeartbeats 4000000 in
theorem lay_no (k m ch er : Int) (A : Option Addr) (n c : Nat) (w : World) (he : Stp.sizeE k m ch n = er) (h0 : er ≠ 0) :
    Calls Tryd.prog 12 #[.int .i64 k, .int .i64 m, .int .i64 ch, .slice A n c] w fun e w' => e = .returned (.tuple #[.slice none 0 0, .int .i64 er]) ∧ Below w.heap.size w w' := by
  have KSz : Hid (Calls Tryd.prog 10 #[.int .i64 k, .int .i64 m, .int .i64 ch, .int .i64 n] w fun e w' => e = .returned (.tuple #[.int .i64 (Stp.sizeV k m ch n : Nat), .int .i64 er]) ∧ Below w.heap.size w w') := by
    have := size_any k m ch n w
    rw [he] at this
    exact this
  have e1 : (er == (0 : Int)) = false := by simp [h0]
  have e2 : (er != (0 : Int)) = true := by simp [h0]
  generalize Stp.sizeV k m ch n = v at *
  clear he
  go_enter Tryd.func12, Tryd.ntmps12
  go_wp2_with fail
  refine KSz.out.mono ?_; rintro e w1 ⟨rfl, hB1⟩
  replace hB1 := Lib.hid hB1
  go_wp2_with fail
  go_ret2
  exact ⟨rfl, hB1.out⟩
end Go.Proofs.YtjbedcgacnnanaaDoor
