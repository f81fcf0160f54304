/-
  May walked, the program's and the document's; the law LzMay.
-/
import Derived.Test.YtiakpffmjkkniaaLzs
import Derived.Test.YtiakpffmjkkniaaLzq
namespace Go.Proofs.Ytiakpffmjkkniaa
set_option linter.unusedSimpArgs false
set_option linter.unusedVariables false
open Go.RowKit Go.Maps

set_option maxRecDepth 100000 in
theorem may_any (lit len dist : Int) (w : World) : Calls Try.prog 14 #[.agg #[.int .u8 lit, .int .i64 len, .int .i64 dist]] w fun e w' => e = .returned (.bool (Lzp.mayB lit len dist)) ∧ Below w.heap.size w w' := by
  have hb : ∀ o, Below w.heap.size w (w.alloc o) := fun o => (Below.refl _ _).alloc (Nat.le_refl _) o
  replace hb := Lib.hid hb
  by_cases h0 : len = 0
  · have Hv : Hid (Lzp.mayB lit len dist = (dist == 0)) := by
      unfold Lzp.mayB; rw [if_pos h0, Hid, Bool.eq_iff_iff, decide_eq_true_eq, beq_iff_eq]
    subst h0
    go_enter Try.func14, Try.ntmps14
    go_wp2_with fail
    go_ret
    exact ⟨ret_bool (by rw [Hv.out]), hb.out _⟩
  have n0 : (len == 0) = false := by rw [beq_eq_false_iff_ne]; exact h0
  have Hm : Hid (Lzp.mayB lit len dist = decide (lit = 0 ∧ 3 ≤ len ∧ len ≤ 257 ∧ 1 ≤ dist ∧ dist ≤ 4095)) := by unfold Lzp.mayB; rw [if_neg h0]; rfl
  by_cases h1 : lit = 0
  case neg =>
    have Hv : Hid (Lzp.mayB lit len dist = false) := by
      rw [Hid, Hm.out, decide_eq_false_iff_not]; intro h; omega
    have g : (lit == 0) = false := by rw [beq_eq_false_iff_ne]; exact h1
    clear h1 h0
    go_enter Try.func14, Try.ntmps14
    go_wp2_with fail
    go_ret
    exact ⟨ret_bool (by rw [Hv.out]), hb.out _⟩
  subst h1
  by_cases h2 : (3 : Int) ≤ len
  case neg =>
    have Hv : Hid (Lzp.mayB 0 len dist = false) := by
      rw [Hid, Hm.out, decide_eq_false_iff_not]; intro h; omega
    have g : len < (3 : Int) := by omega
    clear h2 h0
    go_enter Try.func14, Try.ntmps14
    go_wp2_with fail
    go_ret
    exact ⟨ret_bool (by rw [Hv.out]), hb.out _⟩
  by_cases h3 : len ≤ (257 : Int)
  case neg =>
    have Hv : Hid (Lzp.mayB 0 len dist = false) := by
      rw [Hid, Hm.out, decide_eq_false_iff_not]; intro h; omega
    have g : (257 : Int) < len := by omega
    clear h3 h0
    go_enter Try.func14, Try.ntmps14
    go_wp2_with fail
    go_ret
    exact ⟨ret_bool (by rw [Hv.out]), hb.out _⟩
  by_cases h4 : (1 : Int) ≤ dist
  case neg =>
    have Hv : Hid (Lzp.mayB 0 len dist = false) := by
      rw [Hid, Hm.out, decide_eq_false_iff_not]; intro h; omega
    have g : dist < (1 : Int) := by omega
    clear h4 h0
    go_enter Try.func14, Try.ntmps14
    go_wp2_with fail
    go_ret
    exact ⟨ret_bool (by rw [Hv.out]), hb.out _⟩
  by_cases h5 : dist ≤ (4095 : Int)
  case neg =>
    have Hv : Hid (Lzp.mayB 0 len dist = false) := by
      rw [Hid, Hm.out, decide_eq_false_iff_not]; intro h; omega
    have g : (4095 : Int) < dist := by omega
    clear h5 h0
    go_enter Try.func14, Try.ntmps14
    go_wp2_with fail
    go_ret
    exact ⟨ret_bool (by rw [Hv.out]; first | rfl | (simp; omega)), hb.out _⟩
  have Hv : Hid (Lzp.mayB 0 len dist = true) := by
    rw [Hid, Hm.out, decide_eq_true_eq]; omega
  clear h0
  go_enter Try.func14, Try.ntmps14
  go_wp2_with fail
  go_ret
  exact ⟨ret_bool (by rw [Hv.out]), hb.out _⟩

set_option maxRecDepth 100000 in
theorem refMay_any (lit len dist : Int) (w : World) : Calls Try.prog 15 #[.agg #[.int .u8 lit, .int .i64 len, .int .i64 dist]] w fun e w' => e = .returned (.bool (Lzp.mayB lit len dist)) ∧ Below w.heap.size w w' := by
  have hb : ∀ o, Below w.heap.size w (w.alloc o) := fun o => (Below.refl _ _).alloc (Nat.le_refl _) o
  replace hb := Lib.hid hb
  by_cases h0 : len = 0
  · have Hv : Hid (Lzp.mayB lit len dist = (dist == 0)) := by
      unfold Lzp.mayB; rw [if_pos h0, Hid, Bool.eq_iff_iff, decide_eq_true_eq, beq_iff_eq]
    subst h0
    go_enter Try.func15, Try.ntmps15
    go_wp2_with fail
    go_ret
    exact ⟨ret_bool (by rw [Hv.out]), hb.out _⟩
  have n0 : (len == 0) = false := by rw [beq_eq_false_iff_ne]; exact h0
  have Hm : Hid (Lzp.mayB lit len dist = decide (lit = 0 ∧ 3 ≤ len ∧ len ≤ 257 ∧ 1 ≤ dist ∧ dist ≤ 4095)) := by unfold Lzp.mayB; rw [if_neg h0]; rfl
  by_cases h1 : lit = 0
  case neg =>
    have Hv : Hid (Lzp.mayB lit len dist = false) := by
      rw [Hid, Hm.out, decide_eq_false_iff_not]; intro h; omega
    have g : (lit == 0) = false := by rw [beq_eq_false_iff_ne]; exact h1
    clear h1 h0
    go_enter Try.func15, Try.ntmps15
    go_wp2_with fail
    go_ret
    exact ⟨ret_bool (by rw [Hv.out]), hb.out _⟩
  subst h1
  by_cases h2 : (3 : Int) ≤ len
  case neg =>
    have Hv : Hid (Lzp.mayB 0 len dist = false) := by
      rw [Hid, Hm.out, decide_eq_false_iff_not]; intro h; omega
    have g : len < (3 : Int) := by omega
    clear h2 h0
    go_enter Try.func15, Try.ntmps15
    go_wp2_with fail
    go_ret
    exact ⟨ret_bool (by rw [Hv.out]), hb.out _⟩
  by_cases h3 : len ≤ (257 : Int)
  case neg =>
    have Hv : Hid (Lzp.mayB 0 len dist = false) := by
      rw [Hid, Hm.out, decide_eq_false_iff_not]; intro h; omega
    have g : (257 : Int) < len := by omega
    clear h3 h0
    go_enter Try.func15, Try.ntmps15
    go_wp2_with fail
    go_ret
    exact ⟨ret_bool (by rw [Hv.out]), hb.out _⟩
  by_cases h4 : (1 : Int) ≤ dist
  case neg =>
    have Hv : Hid (Lzp.mayB 0 len dist = false) := by
      rw [Hid, Hm.out, decide_eq_false_iff_not]; intro h; omega
    have g : dist < (1 : Int) := by omega
    clear h4 h0
    go_enter Try.func15, Try.ntmps15
    go_wp2_with fail
    go_ret
    exact ⟨ret_bool (by rw [Hv.out]), hb.out _⟩
  by_cases h5 : dist ≤ (4095 : Int)
  case neg =>
    have Hv : Hid (Lzp.mayB 0 len dist = false) := by
      rw [Hid, Hm.out, decide_eq_false_iff_not]; intro h; omega
    have g : (4095 : Int) < dist := by omega
    clear h5 h0
    go_enter Try.func15, Try.ntmps15
    go_wp2_with fail
    go_ret
    exact ⟨ret_bool (by rw [Hv.out]; first | rfl | (simp; omega)), hb.out _⟩
  have Hv : Hid (Lzp.mayB 0 len dist = true) := by
    rw [Hid, Hm.out, decide_eq_true_eq]; omega
  clear h0
  go_enter Try.func15, Try.ntmps15
  go_wp2_with fail
  go_ret
  exact ⟨ret_bool (by rw [Hv.out]), hb.out _⟩

/-- a token read, its cells spelt as the walk spells them -/
theorem tok_cells' {w : World} {B n : Nat} {A : Option Addr} {l : List (Nat × Nat × Nat)} (h : Reads w B 3 A n (toksC l)) (j : Nat) (hj : j < l.length) : ∃ ad, A = some ad ∧ ad.block < B ∧ w.cell? (ad.add (j * 3)) = some (.int .u8 ((l[j].1 : Nat) : Int)) ∧
    w.cell? ⟨(ad.add (j * 3)).block, (ad.add (j * 3)).off + 1, none⟩ = some (.int .i64 ((l[j].2.1 : Nat) : Int)) ∧ w.cell? ⟨(ad.add (j * 3)).block, (ad.add (j * 3)).off + 2, none⟩ = some (.int .i64 ((l[j].2.2 : Nat) : Int)) := by
  obtain ⟨ad, hA, hb, h0, h1, h2⟩ := tok_cells h j hj
  rw [← add_of_add, show (ad.add (j * 3)).add 1 = ⟨(ad.add (j * 3)).block, (ad.add (j * 3)).off + 1, none⟩ from rfl] at h1
  rw [← add_of_add, show (ad.add (j * 3)).add 2 = ⟨(ad.add (j * 3)).block, (ad.add (j * 3)).off + 2, none⟩ from rfl] at h2
  exact ⟨ad, hA, hb, h0, h1, h2⟩
theorem bm {p q r : Prop} {w1 W w2 : World} (h : p ∧ q ∧ r ∧ Below w1.heap.size w1 W) (h2 : Below W.heap.size W w2) : Below w1.heap.size w1 w2 := h.2.2.2.trans (h2.mono h.2.2.2.size)
theorem below_boxed {w w' : World} {o : Obj} (h : Below (w.alloc o).heap.size (w.alloc o) w') : Below w.heap.size w w' := ((Below.refl _ _).alloc (Nat.le_refl _) _).trans (h.mono (by simp))

set_option maxRecDepth 100000 in
set_option maxHeartbeats 1000000 in
theorem lzMay_walk (lit len dist : Int) (A : Option Addr) (n c : Nat) (bs : List UInt8) (w : World) (l1 : n ≤ c) (m1 : c ≤ maxLen) (h1 : Reads w w.heap.size 1 A n (bs.map B8)) :
    Calls Try.prog 6 #[.agg #[.int .u8 lit, .int .i64 len, .int .i64 dist], .slice A n c] w fun e w' => e = .returned (.bool true) ∧ Below w.heap.size w w' := by
  have H := Lib.hid h1
  clear h1 l1 m1
  have M1 := fun W => Lib.hid (may_any lit len dist W)
  have M2 := fun W => Lib.hid (refMay_any lit len dist W)
  generalize Lzp.mayB lit len dist = mb at *
  go_enter Try.func6, Try.ntmps6
  go_wp2_with fail
  have hB0 : Below w.heap.size w (w.alloc (.cells #[.int .u8 lit, .int .i64 len, .int .i64 dist] 31)) := (Below.refl _ _).alloc (Nat.le_refl _) _
  have hb0 : Blk (w.alloc (.cells #[.int .u8 lit, .int .i64 len, .int .i64 dist] 31)) w.heap.size 31 #[.int .u8 lit, .int .i64 len, .int .i64 dist] := Blk.new _ _ _
  have hlt0 : w.heap.size < (w.alloc (.cells #[.int .u8 lit, .int .i64 len, .int .i64 dist] 31)).heap.size := by simp
  generalize w.alloc (.cells #[.int .u8 lit, .int .i64 len, .int .i64 dist] 31) = w0 at *
  refine (alive_any _).mono ?_; rintro e w1 ⟨rfl, hB1⟩
  have HB1 := Lib.hid (hB0.trans (hB1.mono hB0.size))
  have hb1 := hb0.below hB1 hlt0
  have x0 : w1.cell? ⟨w.heap.size, 0, none⟩ = some (.int .u8 lit) := hb1.cell 0
  have x1 : w1.cell? ⟨w.heap.size, 1, none⟩ = some (.int .i64 len) := hb1.cell 1
  have x2 : w1.cell? ⟨w.heap.size, 2, none⟩ = some (.int .i64 dist) := hb1.cell 2
  have hlt1 : w.heap.size < w1.heap.size := hb1.lt
  have KEEP : Hid (∀ W, Below w1.heap.size w1 W → W.cell? ⟨w.heap.size, 0, none⟩ = some (.int .u8 lit) ∧ W.cell? ⟨w.heap.size, 1, none⟩ = some (.int .i64 len) ∧ W.cell? ⟨w.heap.size, 2, none⟩ = some (.int .i64 dist) ∧ Below w1.heap.size w1 W) := fun W hW =>
    ⟨(hb1.below hW hlt1).cell 0, (hb1.below hW hlt1).cell 1, (hb1.below hW hlt1).cell 2, hW⟩
  clear hB0 hb0 hB1 hlt0 hb1
  have K1 := KEEP.out w1 (Below.refl _ _)
  have K1' := KEEP.out w1.drew (Below.refl _ _).drew
  go_wp2_with fail
  go_region_held3 (fun w' => w'.cell? ⟨w.heap.size, 0, none⟩ = some (.int .u8 lit) ∧ w'.cell? ⟨w.heap.size, 1, none⟩ = some (.int .i64 len) ∧ w'.cell? ⟨w.heap.size, 2, none⟩ = some (.int .i64 dist) ∧ Below w1.heap.size w1 w')
    (first | assumption | exact KEEP.out _ (Below.refl _ _) | exact KEEP.out _ (Below.drew (Below.refl _ _)))
    (first
      | (go_at_call 14; ((with_reducible refine (M1 _).out.mono ?_); rintro e w2 ⟨rfl, hB2⟩; have hS2 := KEEP.out _ (bm (by assumption) hB2)))
      | (go_at_call 15; ((with_reducible refine (M2 _).out.mono ?_); rintro e w3 ⟨rfl, hB3⟩; have hS3 := KEEP.out _ (bm (by assumption) hB3))))
  have HBx := Lib.hid (HB1.out.trans (hS3.2.2.2.mono HB1.out.size))
  clear hS2 hS3 K1 K1' KEEP x0 x1 x2
  generalize w3 = wx at *
  by_cases hn : (3000 : Int) < n
  · go_wp2_with fail
    go_ret
    exact ⟨rfl, HBx.out⟩
  have hn2 : n < 4294967296 := by omega
  have F1 := Lib.hid (find_any A n c w.heap.size bs wx (H.out.below HBx.out) HBx.out.size hn2)
  have hlen : (Lzp.find bs).length < 4294967296 := by have := Lzp.find_len bs; rw [H.out.len] at this; omega
  have Hmay := fun t h => Lib.hid (Lzp.find_may bs t h)
  generalize Lzp.find bs = l at *
  go_wp2_with fail
  refine F1.out.mono ?_; rintro e w4 ⟨A4, c4, rfl, ho4, hB4⟩
  have HB4 := Lib.hid (below_then HBx.out hB4)
  replace ho4 := Lib.hid ho4
  have hw4 : wx.heap.size ≤ w4.heap.size := hB4.size
  clear hB4
  go_wp2_with fail
  go_loopw [6] (fun v6 wr => ∃ k : Nat, v6 = .int .i64 k ∧ k ≤ l.length ∧ Hid (Below w4.heap.size w4 wr)) (fun v6 _ => l.length - (intOf v6).toNat)
  case atStart => exact ⟨0, rfl, by omega, Below.refl _ _⟩
  case round =>
    obtain ⟨k, rfl, hk, HB⟩ := hrel
    by_cases hlt : k < l.length
    · have hlt' : (k : Int) < l.length := by omega
      obtain ⟨ad, rfl, _, y0, y1, y2⟩ := tok_cells' ((Reads.of_own ho4.out).below HB.out) k hlt
      have Hm := (Hmay l[k] (List.getElem_mem hlt)).out
      generalize l[k].1 = t0 at *
      generalize l[k].2.1 = t1 at *
      generalize l[k].2.2 = t2 at *
      have HM := fun W => Lib.hid (refMay_any (t0 : Int) (t1 : Int) (t2 : Int) W)
      rw [Hm] at HM
      clear Hm
      go_wp2_with fail
      refine (HM _).out.mono ?_; rintro e w5 ⟨rfl, hB5⟩
      have HB5 := Lib.hid (below_then HB.out hB5)
      clear hB5
      go_wp2_with fail
      go_roundw
      case rel => exact ⟨k + 1, by go_num, by omega, HB5⟩
      case measure => simp [intOf]; omega
    · obtain rfl : k = l.length := by omega
      go_wp2_with fail
      go_ret
      exact ⟨rfl, below_then HB4.out HB.out⟩
end Go.Proofs.Ytiakpffmjkkniaa
