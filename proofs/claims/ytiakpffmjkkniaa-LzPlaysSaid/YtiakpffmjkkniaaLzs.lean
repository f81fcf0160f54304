/-
  Two lists of tokens compared, walked; the document's example; the law LzFinds.
-/
import Derived.Test.YtiakpffmjkkniaaLzr
import Derived.Deep.MidRow
import Derived.Lib.SlBytesConst
namespace Go.Proofs.Ytiakpffmjkkniaa
set_option linter.unusedSimpArgs false
set_option linter.unusedVariables false
open Go.RowKit Go.Maps

theorem toksC_len (l : List (Nat × Nat × Nat)) : (toksC l).length = l.length * 3 := by
  induction l with
  | nil => rfl
  | cons a l ih =>
    rw [show toksC (a :: l) = tokC a ++ toksC l by simp [toksC]]
    rw [List.length_append, ih, List.length_cons]
    simp only [tokC, List.length_cons, List.length_nil]; omega
theorem toksC_at : ∀ (l : List (Nat × Nat × Nat)) (j f : Nat) (h : j < l.length), f < 3 → (toksC l)[j * 3 + f]? = (tokC l[j])[f]?
  | a :: l, 0, f, _, hf => by
    rw [show toksC (a :: l) = tokC a ++ toksC l by simp [toksC], Nat.zero_mul, Nat.zero_add, List.getElem?_append_left (by simp only [tokC, List.length_cons, List.length_nil]; omega)]
    rfl
  | a :: l, j+1, f, h, hf => by
    rw [show toksC (a :: l) = tokC a ++ toksC l by simp [toksC], List.getElem?_append_right (by simp only [tokC, List.length_cons, List.length_nil]; omega)]
    rw [show (j + 1) * 3 + f - (tokC a).length = j * 3 + f by simp only [tokC, List.length_cons, List.length_nil]; omega]
    exact toksC_at l j f (by simpa using h) hf
/-- a token read: its three cells -/
theorem tok_cells {w : World} {B n : Nat} {A : Option Addr} {l : List (Nat × Nat × Nat)} (h : Reads w B 3 A n (toksC l)) (j : Nat) (hj : j < l.length) : ∃ ad, A = some ad ∧ ad.block < B ∧ w.cell? (ad.add (j * 3)) = some (.int .u8 ((l[j].1 : Nat) : Int)) ∧ w.cell? (ad.add (j * 3 + 1)) = some (.int .i64 ((l[j].2.1 : Nat) : Int)) ∧ w.cell? (ad.add (j * 3 + 2)) = some (.int .i64 ((l[j].2.2 : Nat) : Int)) := by
  have hl := h.1
  rw [toksC_len] at hl
  obtain ⟨ad, hA, hb, hc⟩ := h.2 (by omega)
  have h0 := toksC_at l j 0 hj (by omega)
  have h1 := toksC_at l j 1 hj (by omega)
  have h2 := toksC_at l j 2 hj (by omega)
  exact ⟨ad, hA, hb, hc _ _ (by simpa [tokC] using h0), hc _ _ h1, hc _ _ h2⟩

set_option maxRecDepth 100000 in
set_option maxHeartbeats 1000000 in
theorem sameT_any (A A' : Option Addr) (c c' B B' : Nat) (l : List (Nat × Nat × Nat)) (w : World) (h1 : Reads w B 3 A l.length (toksC l)) (h2 : Reads w B' 3 A' l.length (toksC l)) (hn : l.length < 4294967296) :
    Calls Try.prog 10 #[.slice A l.length c, .slice A' l.length c'] w fun e w' => e = .returned (.bool true) ∧ Dr w w' := by
  have H1 := Lib.hid h1
  have H2 := Lib.hid h2
  clear h1 h2
  go_enter Try.func10, Try.ntmps10
  go_wp2_with fail
  go_loopw [5] (fun i wr => ∃ k : Nat, i = .int .i64 k ∧ k ≤ l.length ∧ Hid (Dr w wr)) (fun i _ => l.length - (intOf i).toNat)
  case atStart => exact ⟨0, rfl, by omega, Dr.refl w⟩
  case round =>
    obtain ⟨k, rfl, hk, HD⟩ := hrel
    by_cases hlt : k < l.length
    · obtain ⟨ad, rfl, _, x0, x1, x2⟩ := tok_cells (HD.out.reads H1.out) k hlt
      obtain ⟨ad', rfl, _, y0, y1, y2⟩ := tok_cells (HD.out.reads H2.out) k hlt
      have hlt' : (k : Int) < l.length := by omega
      generalize l[k].1 = t0 at *
      generalize l[k].2.1 = t1 at *
      generalize l[k].2.2 = t2 at *
      rw [← add_of_add, show (ad.add (k * 3)).add 1 = ⟨(ad.add (k * 3)).block, (ad.add (k * 3)).off + 1, none⟩ from rfl] at x1
      rw [← add_of_add, show (ad.add (k * 3)).add 2 = ⟨(ad.add (k * 3)).block, (ad.add (k * 3)).off + 2, none⟩ from rfl] at x2
      rw [← add_of_add, show (ad'.add (k * 3)).add 1 = ⟨(ad'.add (k * 3)).block, (ad'.add (k * 3)).off + 1, none⟩ from rfl] at y1
      rw [← add_of_add, show (ad'.add (k * 3)).add 2 = ⟨(ad'.add (k * 3)).block, (ad'.add (k * 3)).off + 2, none⟩ from rfl] at y2
      go_wp2_with fail
      go_quiet (fail)
      go_wp2_with fail
      go_roundw
      case rel => exact ⟨k + 1, by go_num, by omega, HD.out.drewN _⟩
      case measure => simp [intOf]; omega
    · obtain rfl : k = l.length := by omega
      go_wp2_with fail
      go_ret
      exact ⟨rfl, HD.out⟩

def aaaa : List UInt8 := [97, 97, 97, 97]
theorem aaaa_find : Lzp.find aaaa = [(97, 0, 0), (0, 3, 1)] := by decide +kernel
theorem new_reads (w : World) (t : TypeId) (fr : Nat × Nat) (bs : List UInt8) : Reads (w.alloc (.cells (bs.map B8).toArray t fr)) (w.heap.size + 1) 1 (some ⟨w.heap.size, 0, none⟩) bs.length (bs.map B8) := by
  refine ⟨by simp, fun _ => ⟨_, rfl, Nat.lt_succ_self _, fun j u hu => ?_⟩⟩
  have e : (⟨w.heap.size, 0, none⟩ : Addr).add j = ⟨w.heap.size, j, none⟩ := by unfold Addr.add; split <;> simp_all
  rw [e, cell_of_row _ _ _ _ t fr (heap_alloc_new w _)]
  simpa using hu
theorem own_addr3 {w : World} {base : Nat} {e : TypeId} {A : Option Addr} {n c size : Nat} {xs : List Value} (h : w.ownsRow base e size (.slice A n c) n xs) (hn : 0 < n) : ∃ g, A = some ⟨g, 0, none⟩ ∧ base ≤ g := by
  rcases h.2 with ⟨_, h0⟩ | ⟨g, cap, cur, hv, hb, _⟩
  · omega
  · simp only [Value.slice.injEq] at hv
    exact ⟨g, hv.1, hb⟩

set_option maxRecDepth 100000 in
theorem alive_any (w : World) : Calls Try.prog 9 #[] w fun e w' => e = .returned (.bool true) ∧ Below w.heap.size w w' := by
  have kc := fun (w : World) (C : Array Value) (n c : Nat) => Lib.run_convert_bytes_const (P := Try.prog) w 22 5 C n c Try.underlying22 Try.underlying5
  have hb : ∀ o, Below w.heap.size w (w.alloc o) := fun o => (Below.refl _ _).alloc (Nat.le_refl _) o
  have C := find_any (some ⟨w.heap.size, 0, none⟩) 4 4 _ aaaa _ (new_reads w 5 (4, 5) aaaa) (by simp) (by omega)
  have e : (aaaa.map B8).toArray = #[.int .u8 97, .int .u8 97, .int .u8 97, .int .u8 97] := rfl
  rw [aaaa_find, e] at C
  clear e
  replace C := Lib.hid C
  replace hb := Lib.hid hb
  go_enter Try.func9, Try.ntmps9
  go_wp2_with fail
  refine C.out.mono ?_; rintro e w1 ⟨A', c', rfl, ho, hB⟩
  obtain ⟨g, rfl, _⟩ := own_addr3 ho (by decide)
  have x0 := ho.cellAt 0 (by decide)
  have x1 := ho.cellAt 1 (by decide)
  have x2 := ho.cellAt 2 (by decide)
  have x3 := ho.cellAt 3 (by decide)
  have x4 := ho.cellAt 4 (by decide)
  have x5 := ho.cellAt 5 (by decide)
  simp [toksC, tokC] at x0 x1 x2 x3 x4 x5
  have hs : ([(97, 0, 0), (0, 3, 1)] : List (Nat × Nat × Nat)).length = 2 := rfl
  simp only [hs]
  clear hs
  replace hB := Lib.hid hB
  clear ho
  go_wp2_with fail
  go_ret
  exact ⟨rfl, below_then (hb.out _) hB.out⟩

set_option maxRecDepth 100000 in
set_option maxHeartbeats 1000000 in
theorem lzFinds_walk (A : Option Addr) (n c : Nat) (bs : List UInt8) (w : World) (l1 : n ≤ c) (m1 : c ≤ maxLen) (h1 : Reads w w.heap.size 1 A n (bs.map B8)) :
    Calls Try.prog 3 #[.slice A n c] w fun e w' => e = .returned (.bool true) ∧ Below w.heap.size w w' := by
  have H := Lib.hid h1
  clear h1
  go_enter Try.func3, Try.ntmps3
  go_wp2_with fail
  refine (alive_any _).mono ?_; rintro e w1 ⟨rfl, hB1⟩
  have HB1 := Lib.hid hB1
  clear hB1
  by_cases hn : (1500 : Int) < n
  · go_wp2_with fail
    go_ret
    exact ⟨rfl, HB1.out⟩
  have hn2 : n < 4294967296 := by omega
  have F1 := Lib.hid (find_any A n c w.heap.size bs w1 (H.out.below HB1.out) HB1.out.size hn2)
  have F2 := fun W (hW : Below w.heap.size w W) => refFind_any A n c w.heap.size bs W (H.out.below hW) hW.size hn2
  have hlen := Lib.hid (Lzp.find_len bs)
  have hL : Hid (bs.length = n) := H.out.len
  replace F2 := Lib.hid F2
  go_wp2_with fail
  refine F1.out.mono ?_; rintro e w2 ⟨A2, c2, rfl, ho2, hB2⟩
  have HB2 := Lib.hid (below_then HB1.out hB2)
  replace ho2 := Lib.hid ho2
  clear hB2
  go_wp2_with fail
  refine (F2.out _ HB2.out).mono ?_; rintro e w3 ⟨A3, c3, rfl, ho3, hB3⟩
  have HB3 := Lib.hid (below_then HB2.out hB3)
  have ho4 := Lib.hid (own_belowL ho2.out hB3)
  replace ho3 := Lib.hid ho3
  clear hB3
  go_wp2_with fail
  refine (sameT_any A2 A3 c2 c3 _ _ (Lzp.find bs) w3 (Reads.of_own ho4.out) (Reads.of_own ho3.out) (by have := hlen.out; rw [hL.out] at this; omega)).mono ?_; rintro e w4 ⟨rfl, hD4⟩
  go_wp2_with fail
  go_ret
  exact ⟨rfl, HB3.out.trans (hD4.below _)⟩
end Go.Proofs.Ytiakpffmjkkniaa
