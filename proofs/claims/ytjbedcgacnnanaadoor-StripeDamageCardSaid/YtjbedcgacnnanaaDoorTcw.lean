/-
  What the functions of crc and firkinref01 compute, each walked once.
-/
import Derived.Test.YtjbedcgacnnanaaDoorRso
import Derived.Test.YtjbedcgacnnanaaDoorCrcp
import Derived.Lib.Hide
namespace Go.Proofs.YtjbedcgacnnanaaDoor
open Go.RowKit

theorem top_sub (x : Nat) (h : x < 4294967296) : ((x ^^^ Crcp.top : Nat) : Int) = 4294967295 - (x : Int) := by
  rw [Crcp.xor_top x h, Crcp.top]
  omega

theorem refBit_any (x : Nat) (w : World) (hx : x < 4294967296) :
    Calls Tryd.prog 71 #[.int .u32 x] w fun e w' => e = .returned (.int .u32 (Crcp.bit1 x)) ∧ w = w' := by
  have hx2 : bits .xor .u32 ((x : Int) / 2) 3988292384 = ((x / 2 ^^^ 3988292384 : Nat) : Int) := u32_xor_nat (x / 2) 3988292384 (by omega) (by omega)
  by_cases h : x % 2 = 1
  · have hb : ((x : Int) % 2 == 1) = true := by rw [beq_iff_eq]; omega
    have Hr : Hid (Crcp.bit1 x = x / 2 ^^^ 3988292384) := if_pos h
    clear h
    go_enter Tryd.func71, Tryd.ntmps71
    go_wp2_with fail
    go_ret
    exact ⟨ret_int (by rw [Hr.out]), rfl⟩
  · have hb : ((x : Int) % 2 == 1) = false := by rw [beq_eq_false_iff_ne]; omega
    have Hr : Hid (Crcp.bit1 x = x / 2) := if_neg h
    clear h hx2
    go_enter Tryd.func71, Tryd.ntmps71
    go_wp2_with fail
    go_ret
    exact ⟨ret_int (by rw [Hr.out]; rfl), rfl⟩

set_option maxRecDepth 100000 in
theorem refMore_any (s : Nat) (A : Option Addr) (n c B : Nat) (bs : List UInt8) (w : World) (hs : s < 4294967296) (h : Reads w B 1 A n (bs.map B8)) (hn : n ≤ maxLen) :
    Calls Tryd.prog 54 #[.int .u32 s, .slice A n c] w fun e w' => e = .returned (.int .u32 (Crcp.more s bs)) ∧ w = w' := by
  unfold maxLen at hn
  have H := Lib.hid h
  have L := Lib.hid h.len
  clear h
  have Ht : Hid (((s ^^^ Crcp.top : Nat) : Int) = 4294967295 - (s : Int)) := top_sub s hs
  go_enter Tryd.func54, Tryd.ntmps54
  go_wp2_with fail
  go_loop [5, 6] (fun x i => ∃ k : Nat, x = .int .u32 (Crcp.run (s ^^^ Crcp.top) (bs.take k)) ∧ i = .int .i64 k ∧ k ≤ n) (fun _ i => n - (intOf i).toNat)
  case atStart => exact ⟨0, by rw [List.take_zero, Crcp.run_nil, Ht.out], rfl, by omega⟩
  case round =>
    obtain ⟨k, rfl, rfl, hk⟩ := hrel
    have hx : Crcp.run (s ^^^ Crcp.top) (bs.take k) < 4294967296 := Crcp.run_lt _ _ (Crcp.xor_lt _ _ hs Crcp.top_lt)
    by_cases hlt : k < n
    · obtain ⟨ad, b, rfl, hb, hbk, hcb⟩ := H.out.byte hlt
      have Hk : Hid (Crcp.run (s ^^^ Crcp.top) (bs.take (k + 1)) = Crcp.bits 8 (Crcp.run (s ^^^ Crcp.top) (bs.take k) ^^^ b.toNat)) := by
        rw [List.take_add_one, hbk]
        exact Crcp.run_snoc _ _ _
      have bb : b.toNat < 256 := b.toNat_lt
      have hxo := u32_xor_nat (Crcp.run (s ^^^ Crcp.top) (bs.take k)) b.toNat hx (by omega)
      have hx2 : Crcp.run (s ^^^ Crcp.top) (bs.take k) ^^^ b.toNat < 4294967296 := Crcp.xor_lt _ _ hx (by omega)
      clear hb hbk
      generalize Crcp.run (s ^^^ Crcp.top) (bs.take k) = x at *
      generalize x ^^^ b.toNat = y at *
      go_wp2_with fail
      go_loop [5, 7] (fun x j => ∃ m : Nat, x = .int .u32 (Crcp.bits m y) ∧ j = .int .i64 m ∧ m ≤ 8) (fun _ j => 8 - (intOf j).toNat)
      case atStart => exact ⟨0, rfl, rfl, by omega⟩
      case round =>
        obtain ⟨m, rfl, rfl, hm⟩ := hrel
        have hy := Crcp.bits_lt m y hx2
        by_cases hm8 : m < 8
        · have Hm : Hid (Crcp.bit1 (Crcp.bits m y) = Crcp.bits (m + 1) y) := by rw [Crcp.bits_add m 1]; rfl
          go_wp2_with fail; refine (refBit_any _ _ hy).mono ?_; rintro e w' ⟨rfl, rfl⟩
          go_wp2_with fail
          go_round
          case rel => exact ⟨m + 1, by rw [Hm.out], by go_num, by omega⟩
          case measure => simp [intOf]; omega
        · obtain rfl : m = 8 := by omega
          go_wp2_with fail
          go_round
          case rel => exact ⟨k + 1, by rw [Hk.out], by go_num, by omega⟩
          case measure => simp [intOf]; omega
    · obtain rfl : k = n := by omega
      have Hf : Hid (((Crcp.more s bs : Nat) : Int) = 4294967295 - ((Crcp.run (s ^^^ Crcp.top) (bs.take k) : Nat) : Int)) := by
        unfold Crcp.more
        rw [List.take_of_length_le (by rw [L.out]; exact Nat.le_refl _)] at hx ⊢
        exact top_sub _ hx
      go_wp2_with fail
      go_ret
      exact ⟨ret_int Hf.out.symm, rfl⟩

/-- the table: what four shifts make of four bits -/
def Tab (w : World) : Prop := ∀ i, i < 16 → w.cell? ⟨0, i, none⟩ = some (.int .u32 ((Crcp.bits 4 i : Nat) : Int))
theorem Tab.pos {w : World} (h : Tab w) : 0 < w.heap.size := lt_of_cell (h 0 (by omega))
theorem Tab.below {w w' : World} {B : Nat} (h : Tab w) (hb : Below B w w') (hB : 0 < B) : Tab w' := fun i hi => by
  rw [hb.cell (p := ⟨0, i, none⟩) hB]; exact h i hi

theorem not_u32 (s : Nat) (h : s < 4294967296) : bits .xor .u32 IntKind.u32.max (s : Int) = ((s ^^^ Crcp.top : Nat) : Int) := by
  rw [Nat.xor_comm]
  exact u32_xor_nat Crcp.top s Crcp.top_lt h
/-- one half of a byte's step, as the walk writes it -/
theorem nib_facts (y : Nat) (hy : y < 4294967296) {w : World} (ht : Tab w) :
    bits .and .u32 (y : Int) 15 = ((y % 16 : Nat) : Int) ∧ w.cell? ⟨0, y % 16, none⟩ = some (.int .u32 ((Crcp.bits 4 (y % 16) : Nat) : Int)) ∧
    bits .xor .u32 ((y : Int) / 16) ((Crcp.bits 4 (y % 16) : Nat) : Int) = ((Crcp.nib y : Nat) : Int) ∧ Crcp.nib y < 4294967296 := by
  have h1 : Crcp.bits 4 (y % 16) < 4294967296 := Crcp.bits_lt _ _ (by omega)
  refine ⟨?_, ht _ (by omega), u32_xor_nat (y / 16) _ (by omega) h1, by rw [Crcp.nib_eq]; exact Crcp.bits_lt _ _ hy⟩
  rw [show (15 : Int) = ((15 : Nat) : Int) from rfl, u32_and_nat y 15 hy (by omega), nat_mask4]
set_option maxRecDepth 100000 in
set_option maxHeartbeats 1000000 in
theorem more_any (s : Nat) (A : Option Addr) (n c B : Nat) (xss : List (List UInt8)) (w : World) (hs : s < 4294967296) (ht : Tab w) (h : Rows8 w B A n xss) (hn : n ≤ maxLen) :
    Calls Tryd.prog 60 #[.int .u32 s, .slice A n c] w fun e w' => e = .returned (.int .u32 (Crcp.more s xss.flatten)) ∧ w = w' := by
  unfold maxLen at hn
  have H := Lib.hid h
  have T := Lib.hid ht
  clear h ht
  have hsx := not_u32 s hs
  have hst : s ^^^ Crcp.top < 4294967296 := Crcp.xor_lt _ _ hs Crcp.top_lt
  have Hres : Hid (Crcp.more s xss.flatten = Crcp.run (s ^^^ Crcp.top) xss.flatten ^^^ Crcp.top) := rfl
  generalize s ^^^ Crcp.top = s0 at *
  go_enter Tryd.func60, Tryd.ntmps60
  go_wp2_with fail
  go_loop [5, 14] (fun x i => ∃ k : Nat, x = .int .u32 (Crcp.run s0 (xss.take k).flatten) ∧ i = .int .i64 k ∧ k ≤ n) (fun _ i => n - (intOf i).toNat)
  case atStart => exact ⟨0, rfl, rfl, by omega⟩
  case round =>
    obtain ⟨k, rfl, rfl, hk⟩ := hrel
    by_cases hlt : k < n
    · obtain ⟨ad, xs, Ai, ni, ci, rfl, hb, hxs, hcell, hni, hci, hr⟩ := H.out.row hlt
      have Hk : Hid (∀ j, Crcp.run (Crcp.run s0 (xss.take k).flatten) (xs.take (j + 1)) = Crcp.run (Crcp.run s0 (xss.take k).flatten) (xs.take j ++ (xs[j]?).toList)) := fun j => by rw [List.take_add_one]
      have Hn : Hid (Crcp.run s0 (xss.take (k + 1)).flatten = Crcp.run (Crcp.run s0 (xss.take k).flatten) xs) := by
        rw [List.take_add_one, hxs, List.flatten_append, Crcp.run_append]
        simp [Hid]
      have hx0 : Crcp.run s0 (xss.take k).flatten < 4294967296 := Crcp.run_lt _ _ hst
      have R := Lib.hid hr
      have Lr := Lib.hid hr.len
      have hmax : ni ≤ 9223372036854775807 := by unfold maxLen at hci; omega
      clear hb hxs hr hci
      generalize Crcp.run s0 (xss.take k).flatten = x0 at *
      go_wp2_with fail
      go_loop [5, 20] (fun x j => ∃ m : Nat, x = .int .u32 (Crcp.run x0 (xs.take m)) ∧ j = .int .i64 m ∧ m ≤ ni) (fun _ j => ni - (intOf j).toNat)
      case atStart => exact ⟨0, rfl, rfl, by omega⟩
      case round =>
        obtain ⟨m, rfl, rfl, hm⟩ := hrel
        by_cases hmn : m < ni
        · obtain ⟨ad2, b, rfl, hb, hbk, hcb⟩ := R.out.byte hmn
          have hx1 : Crcp.run x0 (xs.take m) < 4294967296 := Crcp.run_lt _ _ hx0
          have Hs : Hid (Crcp.run x0 (xs.take (m + 1)) = Crcp.nib (Crcp.nib (Crcp.run x0 (xs.take m) ^^^ b.toNat))) := by
            rw [Hk.out, hbk, Crcp.nib_nib]
            exact Crcp.run_snoc _ _ _
          have bb : b.toNat < 256 := b.toNat_lt
          have e1 := u32_xor_nat (Crcp.run x0 (xs.take m)) b.toNat hx1 (by omega)
          have hy : Crcp.run x0 (xs.take m) ^^^ b.toNat < 4294967296 := Crcp.xor_lt _ _ hx1 (by omega)
          clear hbk hb
          generalize Crcp.run x0 (xs.take m) = x at *
          generalize x ^^^ b.toNat = y at *
          obtain ⟨e2, c2, e3, hz⟩ := nib_facts y hy T.out
          generalize Crcp.nib y = z at *
          obtain ⟨e4, c4, e5, _⟩ := nib_facts z hz T.out
          generalize Crcp.nib z = u at *
          have q1 : y % 16 < 16 := by omega
          have q2 : z % 16 < 16 := by omega
          generalize y % 16 = y15 at *
          generalize z % 16 = z15 at *
          generalize Crcp.bits 4 y15 = ty at *
          generalize Crcp.bits 4 z15 = tz at *
          go_wp2_with fail
          go_round
          case rel => exact ⟨m + 1, by rw [Hs.out], by go_num, by omega⟩
          case measure => simp [intOf]; omega
        · obtain rfl : m = ni := by omega
          have Hm : Hid (xs.take m = xs) := List.take_of_length_le (by rw [Lr.out]; exact Nat.le_refl _)
          go_wp2_with fail
          go_round
          case rel => exact ⟨k + 1, by rw [Hn.out, Hm.out], by go_num, by omega⟩
          case measure => simp [intOf]; omega
    · obtain rfl : k = n := by omega
      have Hl : Hid (xss.take k = xss) := by
        obtain ⟨cs, _, hl, _⟩ := H.out
        exact List.take_of_length_le (by omega)
      have hx : Crcp.run s0 (xss.take k).flatten < 4294967296 := Crcp.run_lt _ _ hst
      have hnx := not_u32 _ hx
      go_wp2_with fail
      go_ret
      exact ⟨ret_int (by rw [Hres.out, Hl.out]), rfl⟩

theorem refSum_any (A : Option Addr) (n c B : Nat) (bs : List UInt8) (w : World) (h : Reads w B 1 A n (bs.map B8)) (hn : n ≤ maxLen) :
    Calls Tryd.prog 34 #[.slice A n c] w fun e w' => e = .returned (.int .u32 (Crcp.sum bs)) ∧ w = w' := by
  have H := Lib.hid (refMore_any 0 A n c B bs w (by omega) h hn)
  clear h hn
  go_enter Tryd.func34, Tryd.ntmps34
  go_wp2_with fail; refine (H.out).mono ?_; rintro e w' ⟨rfl, rfl⟩
  go_wp2_with fail
  go_ret
  exact ⟨rfl, rfl⟩

theorem sum_any (A : Option Addr) (n c B : Nat) (bs : List UInt8) (w : World) (ht : Tab w) (h : Reads w B 1 A n (bs.map B8)) (hB : B ≤ w.heap.size) (hc : n ≤ c) (hm : c ≤ maxLen) :
    Calls Tryd.prog 42 #[.slice A n c] w fun e w' => e = .returned (.int .u32 (Crcp.sum bs)) ∧ Below w.heap.size w w' := by
  have hb : ∀ o, Below w.heap.size w (w.alloc o) := fun o => (Below.refl _ _).alloc (Nat.le_refl _) o
  have H := fun t => Lib.hid (more_any 0 (some ⟨w.heap.size, 0, none⟩) 1 1 _ [bs] _ (by omega) (ht.below (hb _) ht.pos) (rows8_one t h hB hc hm) (by unfold maxLen; omega))
  simp only [List.flatten_cons, List.flatten_nil, List.append_nil] at H
  clear h hc hm hB ht
  go_enter Tryd.func42, Tryd.ntmps42
  go_wp2_with fail; refine ((H _).out).mono ?_; rintro e w' ⟨rfl, rfl⟩
  go_wp2_with fail
  go_ret
  exact ⟨rfl, hb _⟩
end Go.Proofs.YtjbedcgacnnanaaDoor
