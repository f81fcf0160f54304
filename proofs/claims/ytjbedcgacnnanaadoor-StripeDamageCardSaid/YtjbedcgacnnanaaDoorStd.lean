/-
  What is laid out, plainly; chunks as lists; lists kept beside a row that grows; make in a drawn region.
-/
import Derived.Test.YtjbedcgacnnanaaDoorStb
import Derived.Test.YtjbedcgacnnanaaDoorStc
import Derived.Test.YtjbedcgacnnanaaDoorTcs
import Derived.Test.YtjbedcgacnnanaaDoorRsx
namespace Go.Proofs.YtjbedcgacnnanaaDoor
set_option linter.unusedSimpArgs false
set_option linter.unusedVariables false
open Go.RowKit

namespace Stp
/-- the chunk number x -/
def chunkB (b : List UInt8) (ch x : Nat) : List UInt8 := (b.drop (x * ch)).take ch
def partsB (k ch : Nat) (b : List UInt8) : List (List UInt8) := (List.range k).map (chunkB b ch)
/-- one stripe laid out -/
def oneB (k m ch : Nat) (b : List UInt8) : List UInt8 := ((Rsp.allV k m ch (partsB k ch b)).map Crcp.put).flatten
/-- the first s stripes of the data P -/
def layB (k m ch : Nat) (P : List UInt8) (s : Nat) : List UInt8 := ((List.range s).map fun t => oneB k m ch ((P.drop (t * (k * ch))).take (k * ch))).flatten
def padB (d : Nat) (b : List UInt8) : List UInt8 := b ++ List.replicate (num d b.length * d - b.length) 0
def layV (k m ch : Nat) (b : List UInt8) : List UInt8 := layB k m ch (padB (k * ch) b) (num (k * ch) b.length)
theorem chunkB_len {b : List UInt8} {ch x N : Nat} (hb : b.length = N) (hx : (x + 1) * ch ≤ N) : (chunkB b ch x).length = ch := by
  unfold chunkB
  rw [List.length_take, List.length_drop, hb]
  rw [Nat.succ_mul] at hx; omega
theorem partsB_len (k ch : Nat) (b : List UInt8) : (partsB k ch b).length = k := by simp [partsB]
theorem partsB_get {k ch : Nat} {b : List UInt8} {i : Nat} (h : i < k) : (partsB k ch b)[i]? = some (chunkB b ch i) := by
  unfold partsB; rw [List.getElem?_map, List.getElem?_range h]; rfl
theorem partsB_all {k ch : Nat} {b : List UInt8} (hb : b.length = k * ch) : ∀ x ∈ partsB k ch b, x.length = ch := fun x hx => by
  unfold partsB at hx
  obtain ⟨t, ht, rfl⟩ := List.mem_map.1 hx
  exact chunkB_len hb (Nat.mul_le_mul_right _ (List.mem_range.1 ht))
theorem flat_len {L : Nat} : ∀ (l : List (List UInt8)), (∀ x ∈ l, x.length = L) → l.flatten.length = l.length * L
  | [], _ => by simp
  | a :: t, h => by rw [List.flatten_cons, List.length_append, h a (List.mem_cons_self ..), flat_len t (fun x hx => h x (List.mem_cons_of_mem _ hx)), List.length_cons, Nat.succ_mul, Nat.add_comm]
theorem put_all {L : Nat} {l : List (List UInt8)} (h : ∀ x ∈ l, x.length = L) : ∀ x ∈ l.map Crcp.put, x.length = L + 4 := fun x hx => by
  obtain ⟨y, hy, rfl⟩ := List.mem_map.1 hx
  rw [Crcp.put_length, h y hy]
theorem oneB_len {k m ch : Nat} {b : List UInt8} (hb : b.length = k * ch) : (oneB k m ch b).length = (k + m) * (ch + 4) := by
  unfold oneB
  rw [flat_len _ (put_all (Rsp.allV_all (partsB_all hb))), List.length_map, Rsp.allV_len (partsB_len ..)]
theorem layB_step (k m ch : Nat) (P : List UInt8) (s : Nat) : layB k m ch P (s + 1) = layB k m ch P s ++ oneB k m ch ((P.drop (s * (k * ch))).take (k * ch)) := by
  unfold layB
  rw [List.range_succ, List.map_append, List.flatten_append]; simp
theorem part_len {P : List UInt8} {d s S : Nat} (hP : P.length = S * d) (hs : s < S) : ((P.drop (s * d)).take d).length = d := by
  rw [List.length_take, List.length_drop, hP]
  have := Nat.mul_le_mul_right d (show s + 1 ≤ S from hs)
  rw [Nat.succ_mul] at this; omega
theorem layB_len {k m ch : Nat} {P : List UInt8} {S : Nat} (hP : P.length = S * (k * ch)) : ∀ s, s ≤ S → (layB k m ch P s).length = s * ((k + m) * (ch + 4))
  | 0, _ => by simp [layB]
  | s + 1, h => by rw [layB_step, List.length_append, layB_len hP s (by omega), oneB_len (part_len hP h), Nat.succ_mul]
theorem num_ge {d n : Nat} (hd : 1 ≤ d) : n ≤ num d n * d := by
  rw [num_ref hd]
  have h1 := Nat.div_add_mod n d
  have h2 := Nat.mod_lt n (show 0 < d by omega)
  have h3 : n / d * d = d * (n / d) := Nat.mul_comm _ _
  split
  · rw [Nat.succ_mul]; omega
  · omega
theorem padB_len {d : Nat} {b : List UInt8} (hd : 1 ≤ d) : (padB d b).length = num d b.length * d := by
  unfold padB
  rw [List.length_append, List.length_replicate]
  have := num_ge (n := b.length) hd
  omega
theorem layV_len {k m ch : Nat} {b : List UInt8} (hd : 1 ≤ k * ch) : (layV k m ch b).length = size k m ch b.length := by
  unfold layV size
  exact layB_len (padB_len hd) _ (Nat.le_refl _)
end Stp
theorem Reads.chunk {w : World} {B N ch x : Nat} {A : Option Addr} {b : List UInt8} (h : Reads w B 1 A N (b.map B8)) (hx : (x + 1) * ch ≤ N) : Reads w B 1 (A.map (·.add (x * ch))) ch ((Stp.chunkB b ch x).map B8) := by
  have hl := h.len
  refine ⟨by rw [List.length_map, Stp.chunkB_len hl hx, Nat.mul_one], fun hn => ?_⟩
  have hx2 : x * ch + ch ≤ N := by rw [← Nat.succ_mul]; exact hx
  obtain ⟨ad, rfl, hb, hc⟩ := h.2 (by omega)
  refine ⟨ad.add (x * ch), rfl, by rw [block_of_add]; exact hb, fun j u hu => ?_⟩
  rw [add_of_add]
  refine hc _ u ?_
  rw [← hu, List.getElem?_map, List.getElem?_map]
  congr 1
  unfold Stp.chunkB
  have hj : j < ch := by
    have := (List.getElem?_eq_some_iff.1 hu).1
    rw [List.length_map, Stp.chunkB_len hl hx] at this
    exact this
  rw [List.getElem?_take, if_pos hj, List.getElem?_drop]
theorem collected_lists {W : World} {b0 base k c' d ch : Nat} {A A' : Option Addr} {b : List UInt8} (ho : W.ownsRow base 27 1 (.slice A' k c') k ((List.finRange k).map fun x => chunkV A ch x.val)) (hr : Reads W b0 1 A d (b.map B8)) (hd : d = k * ch) (h0 : b0 ≤ base) (hb : base ≤ W.heap.size) (hch : ch ≤ maxLen) :
    Lists W b0 base A' k c' (Stp.partsB k ch b) := by
  refine Lists.vals ho (Stp.partsB_len ..) (fun i xs hi => ?_) h0 hb
  have hik : i < k := by
    have := (List.getElem?_eq_some_iff.1 hi).1
    rwa [Stp.partsB_len] at this
  rw [Stp.partsB_get hik] at hi
  injection hi with hi
  subst hi
  have hx : (i + 1) * ch ≤ d := by rw [hd]; exact Nat.mul_le_mul_right _ hik
  have hl := Stp.chunkB_len hr.len hx
  refine ⟨A.map (·.add (i * ch)), ch, ?_, ?_⟩
  · rw [List.getElem?_map, List.getElem?_eq_getElem (by simpa using hik)]
    simp [chunkV, hl]
  · refine ⟨by rw [hl]; exact Nat.le_refl _, hch, .inl ?_⟩
    rw [hl]
    exact hr.chunk hx
/-- a list and its rows lie aside of a row that grows -/
theorem Lists.aside {W8 wr : World} {b0 base n c g7 : Nat} {A A21 : Option Addr} {xss : List (List UInt8)} (h : Lists W8 b0 base A n c xss) (h1 : b0 ≤ g7) (h2 : g7 < base) (hA : Aside W8 wr g7 A21) : Lists wr b0 base A n c xss := by
  obtain ⟨⟨vs, a1, a2, a3⟩, hb, h0⟩ := h
  have keep : ∀ {E : TypeId} {size n' c'' : Nat} {A' : Option Addr} {ys : List Value}, W8.ownsRow base E size (.slice A' n' c'') n' ys → wr.ownsRow base E size (.slice A' n' c'') n' ys := fun ho =>
    ownsRow_block ho fun a ha => by
      have hl := ho.lt a.block (by rw [ha]; rfl)
      exact hA.heap _ hl.2 (by omega)
  refine ⟨⟨vs, keep a1, a2, fun i xs hi => ?_⟩, Nat.le_trans hb hA.size, h0⟩
  obtain ⟨Ai, ci, q1, q2, q3, q4⟩ := a3 i xs hi
  refine ⟨Ai, ci, q1, q2, q3, ?_⟩
  rcases q4 with q4 | q4
  · exact .inl (q4.keep fun p hp => World.cell?_of_block (hA.heap p.block (by omega) (by omega)))
  · exact .inr (keep q4)
theorem Reads.aside {W8 wr : World} {B size n g7 : Nat} {A A21 : Option Addr} {xs : List Value} (h : Reads W8 B size A n xs) (h1 : B ≤ g7) (h2 : B ≤ W8.heap.size) (hA : Aside W8 wr g7 A21) : Reads wr B size A n xs :=
  h.keep fun p hp => World.cell?_of_block (hA.heap p.block (by omega) (by omega))
section
variable {P : Program}
theorem step_make_full (w : World) {o : Oper} {ops : Array Oper} {a : Act} {K : Act → World → Prop} {Q : Exit → Act → World → Prop} {E : Prop}
    (hg : o.guard = none) (l c : Operand) (t : TypeId) (hop : o.op = Op.makeSlice t l c)
    (base : Nat) (e : TypeId) (i : TypeInfo) (z : Value) (size : Nat) (h1 : P.underlying t = some (.slice e)) (h2 : P.info? e = some i) (h3 : i.zero = some z) (h4 : i.size = size)
    (kl kc : IntKind) (n : Nat) (hl : a.eval l = .int kl (n : Int)) (hc : a.eval c = .int kc (n : Int)) (b2 : i.bytes * n ≤ 281474976710656) (b3 : n ≤ maxLen) (b4 : base ≤ w.heap.size)
    (hK : ∀ w', w'.ownsRow base e size (.slice (some ⟨w.heap.size, 0, none⟩) n n) n (madeCells z.cells (n * size)).toList → w.grownBy w' none → K (a.put o.dst (.slice (some ⟨w.heap.size, 0, none⟩) n n)) w') :
    if Region.wanted o (yielded ops a.tmps) = true then Oper.wp P o a w K Q else E := by
  have hw : Region.wanted o (yielded ops a.tmps) = true := by simp [Region.wanted, hg]
  rw [if_pos hw]
  obtain ⟨w', hrun, r1, r2⟩ := run_make_full (P := P) w base t e i z size h1 h2 h3 h4 kl kc n b2 b3 b4
  unfold Oper.wp
  simp [execOp, hop, hl, hc, hrun, Result.andThen]
  exact hK w' r1 r2
end
end Go.Proofs.YtjbedcgacnnanaaDoor
