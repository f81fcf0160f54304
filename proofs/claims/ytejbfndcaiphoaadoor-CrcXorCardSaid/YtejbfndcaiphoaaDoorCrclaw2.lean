/-
  The walks of the laws CrcMore and CrcXor of layer 1.
-/
import Derived.Test.YtejbfndcaiphoaaDoorCrclaw
namespace Go.Proofs.YtejbfndcaiphoaaDoor
open Go.RowKit

theorem b8_one (l : List UInt8) : ∀ u ∈ l.map B8, u.oneCell' = true := by
  intro u hu
  obtain ⟨b, _, rfl⟩ := List.mem_map.1 hu
  rfl

set_option maxRecDepth 100000 in
set_option maxHeartbeats 1000000 in
theorem crcMore_walk (s : Nat) (A : Option Addr) (n c : Nat) (xss : List (List UInt8)) (w : World) (hs : s < 4294967296) (_l1 : n ≤ c) (_m1 : c ≤ maxLen) (h1 : Rows8 w w.heap.size A n xss) (ht : Tab w) :
    Calls Tryd.prog 4 #[.int .u32 s, .slice A n c] w fun e w' => e = .returned (.bool true) ∧ Below w.heap.size w w' := by
  have T := Lib.hid ht
  have H := Lib.hid h1
  clear ht h1 _l1 _m1
  obtain ⟨i0, hi, hz0, hz1, hz2⟩ := info_parts info_u8
  replace hi := Lib.hid hi; replace hz0 := Lib.hid hz0; replace hz1 := Lib.hid hz1; replace hz2 := Lib.hid hz2
  go_enter Tryd.func4, Tryd.ntmps4
  go_wp2_with fail
  refine (alive_any _ T.out).mono ?_; rintro e w1 ⟨rfl, hB1⟩
  by_cases hn : (30 : Int) < n
  · go_wp2_with fail
    go_ret
    exact ⟨rfl, hB1⟩
  have HB1 := Lib.hid hB1
  clear hB1
  go_wp2_with fail
  go_loopw [5, 6] (fun v i wr => ∃ (k m c0 : Nat) (A0 : Option Addr), v = .slice A0 m c0 ∧ i = .int .i64 k ∧ k ≤ n ∧ m ≤ 300 * k ∧ Hid (Below w.heap.size w wr) ∧
      Hid (wr.ownsRow w.heap.size 5 1 (.slice A0 m c0) m ((xss.take k).flatten.map B8))) (fun _ i _ => n - (intOf i).toNat)
  case atStart => exact ⟨0, 0, 0, none, rfl, rfl, by omega, by omega, HB1.out, World.ownsRow_nil _ _ _ 1⟩
  case round =>
    obtain ⟨k, m, c0, A0, rfl, rfl, hk, hm, HB, Ho⟩ := hrel
    by_cases hlt : k < n
    · obtain ⟨ad, xs, Ai, ni, ci, rfl, hb, hxs, hcell, hni, hci, hr⟩ := (H.out.below HB.out).row hlt
      by_cases h300 : (300 : Int) < ni
      · clear hxs hb hr hni hci
        go_wp2_with fail
        go_ret
        exact ⟨rfl, HB.out⟩
      · have Hx : Hid ((xss.take (k + 1)).flatten = (xss.take k).flatten ++ xs) := by
          rw [List.take_add_one, hxs, List.flatten_append]
          simp [Hid]
        have R := Lib.hid hr
        clear hxs hb hr hni hci
        go_wp2_with (at_builtin; refine wpList_append_any _ rfl (.tmp 24) (.tmp 28) 22 rfl w.heap.size 5 i0 (.int .u8 0) 1 1 Tryd.underlying22 hi.out hz0.out hz1.out hz2.out rfl (by omega) A0 m c0 _ rfl Ho.out w.heap.size Ai ni ci _ rfl R.out (b8_one _) ?_ ?_ ?_ ?_; rotate_left 3; intro A1 c1 w2 ho1 hg1 _hs1; have HB2 := Lib.hid (below_app HB.out hg1 Ho.out HB.out.size); replace ho1 := Lib.hid ho1; clear hg1 _hs1)
        rotate_left 1
        · unfold maxLen; omega
        · omega
        · exact HB.out.size
        go_roundw
        case rel =>
          refine ⟨k + 1, m + ni, c1, A1, rfl, by go_num, by omega, by omega, HB2, ?_⟩
          rw [Hx.out, List.map_append]
          exact ho1.out
        case measure => simp [intOf]; omega
    · obtain rfl : k = n := by omega
      have Hl : Hid (xss.take k = xss) := by
        obtain ⟨cs, _, hl, _⟩ := H.out
        exact List.take_of_length_le (by omega)
      have Ho2 : Hid (wr.ownsRow w.heap.size 5 1 (.slice A0 m c0) m (xss.flatten.map B8)) := by
        have h := Ho.out
        rw [Hl.out] at h; exact h
      have Rd := Lib.hid (Reads.of_own Ho2.out)
      have hml : m ≤ c0 ∧ c0 ≤ maxLen := own_cap Ho2.out
      obtain ⟨hm1, hm2⟩ := hml
      have C1 := Lib.hid (more_any s A k c w.heap.size xss wr hs (T.out.below HB.out T.out.pos) (H.out.below HB.out) (by unfold maxLen; omega))
      have C2 := Lib.hid (refMore_any s A0 m c0 _ xss.flatten wr hs Rd.out (by unfold maxLen; omega))
      go_wp2_with fail
      refine C1.out.mono ?_; rintro e w' ⟨rfl, rfl⟩
      go_wp2_with fail
      refine C2.out.mono ?_; rintro e w' ⟨rfl, rfl⟩
      have C3 := more_any s _ 1 1 _ [xss.flatten] _ hs (T.out.below (below_alloc HB.out _) T.out.pos) (rows8_one 22 Rd.out (Nat.le_refl _) hm1 hm2) (by unfold maxLen; omega)
      simp only [List.flatten_cons, List.flatten_nil, List.append_nil] at C3
      replace C3 := Lib.hid C3
      have C4 := fun o => Lib.hid (refMore_any s A0 m c0 _ xss.flatten (wr.alloc o) hs (Rd.out.alloc (Nat.le_refl _) o) (by unfold maxLen; omega))
      go_wp2_with fail
      refine C3.out.mono ?_; rintro e w' ⟨rfl, rfl⟩
      go_wp2_with fail
      refine (C4 _).out.mono ?_; rintro e w' ⟨rfl, rfl⟩
      go_wp2_with fail
      go_ret
      exact ⟨rfl, below_alloc HB.out _⟩

/-- of three lists the bytes xored, the first k -/
def xor3 (a b c : List UInt8) (k : Nat) : List UInt8 := (List.range k).map fun i => a.getD i 0 ^^^ b.getD i 0 ^^^ c.getD i 0
theorem xor3_snoc (a b c : List UInt8) (k : Nat) : xor3 a b c (k + 1) = xor3 a b c k ++ [a.getD k 0 ^^^ b.getD k 0 ^^^ c.getD k 0] := by simp [xor3, List.range_succ]
theorem xor3_zip (a b c : List UInt8) (h1 : a.length = b.length) (h2 : a.length = c.length) : xor3 a b c a.length = List.zipWith (· ^^^ ·) (List.zipWith (· ^^^ ·) a b) c := by
  apply List.ext_getElem?
  intro i
  by_cases hi : i < a.length
  · simp [xor3, List.getElem?_zipWith, List.getD_eq_getElem?_getD, List.getElem?_eq_getElem (show i < b.length by omega), List.getElem?_eq_getElem (show i < c.length by omega), hi]
  · simp [xor3, List.getElem?_zipWith, hi]
theorem getD_of {xs : List UInt8} {k : Nat} {b : UInt8} (h : xs[k]? = some b) : xs.getD k 0 = b := by
  rw [List.getD_eq_getElem?_getD, h]; rfl
theorem xor8 (a b : UInt8) : bits .xor .u8 (a.toNat : Int) (b.toNat : Int) = ((a ^^^ b).toNat : Int) := by
  rw [u8_xor_nat _ _ a.toNat_lt b.toNat_lt, UInt8.toNat_xor]

set_option maxRecDepth 100000 in
set_option maxHeartbeats 2000000 in
theorem crcXor_walk (A : Option Addr) (n c : Nat) (xs : List UInt8) (B : Option Addr) (n' c' : Nat) (ys : List UInt8) (D : Option Addr) (n'' c'' : Nat) (zs : List UInt8) (w : World)
    (l1 : n ≤ c) (m1 : c ≤ maxLen) (h1 : Reads w w.heap.size 1 A n (xs.map B8)) (l2 : n' ≤ c') (m2 : c' ≤ maxLen) (h2 : Reads w w.heap.size 1 B n' (ys.map B8)) (l3 : n'' ≤ c'') (m3 : c'' ≤ maxLen) (h3 : Reads w w.heap.size 1 D n'' (zs.map B8)) (ht : Tab w) :
    Calls Tryd.prog 5 #[.slice A n c, .slice B n' c', .slice D n'' c''] w fun e w' => e = .returned (.bool true) ∧ Below w.heap.size w w' := by
  have T := Lib.hid ht
  have H1 := Lib.hid h1
  have H2 := Lib.hid h2
  have H3 := Lib.hid h3
  have L1 := Lib.hid h1.len
  have L2 := Lib.hid h2.len
  have L3 := Lib.hid h3.len
  clear ht h1 h2 h3
  obtain ⟨i0, hi, hz0, hz1, hz2⟩ := info_parts info_u8
  replace hi := Lib.hid hi; replace hz0 := Lib.hid hz0; replace hz1 := Lib.hid hz1; replace hz2 := Lib.hid hz2
  have LM := Lib.hid (show (n ≤ c ∧ c ≤ maxLen) ∧ (n' ≤ c' ∧ c' ≤ maxLen) ∧ (n'' ≤ c'' ∧ c'' ≤ maxLen) from ⟨⟨l1, m1⟩, ⟨l2, m2⟩, ⟨l3, m3⟩⟩)
  clear l1 m1 l2 m2 l3 m3
  go_enter Tryd.func5, Tryd.ntmps5
  go_wp2_with fail
  refine (alive_any _ T.out).mono ?_; rintro e w1 ⟨rfl, hB1⟩
  have HB1 := Lib.hid hB1
  clear hB1
  by_cases hn : (3000 : Int) < n
  · go_wp2_with fail
    go_ret
    exact ⟨rfl, HB1.out⟩
  by_cases e1 : n = n'
  case neg =>
    have he : ((n : Int) != (n' : Int)) = true := by rw [bne_iff_ne]; omega
    clear e1
    go_wp2_with fail
    go_ret
    exact ⟨rfl, HB1.out⟩
  by_cases e2 : n = n''
  case neg =>
    have he : ((n : Int) != (n'' : Int)) = true := by rw [bne_iff_ne]; omega
    subst e1
    clear e2
    go_wp2_with fail
    go_ret
    exact ⟨rfl, HB1.out⟩
  subst e1
  subst e2
  go_wp2_with fail
  go_loopw [7, 8] (fun v i wr => ∃ (k c0 : Nat) (A0 : Option Addr), v = .slice A0 k c0 ∧ i = .int .i64 k ∧ k ≤ n ∧ Hid (Below w.heap.size w wr) ∧
      Hid (wr.ownsRow w.heap.size 5 1 (.slice A0 k c0) k ((xor3 xs ys zs k).map B8))) (fun _ i _ => n - (intOf i).toNat)
  case atStart => exact ⟨0, 0, none, rfl, rfl, by omega, HB1.out, World.ownsRow_nil _ _ _ 1⟩
  case round =>
    obtain ⟨k, c0, A0, rfl, rfl, hk, HB, Ho⟩ := hrel
    by_cases hlt : k < n
    · obtain ⟨ad, x, rfl, hb, hx, hcx⟩ := (H1.out.below HB.out).byte hlt
      obtain ⟨ad', y, rfl, hb', hy, hcy⟩ := (H2.out.below HB.out).byte hlt
      obtain ⟨ad'', z, rfl, hb'', hz, hcz⟩ := (H3.out.below HB.out).byte hlt
      have Hv : Hid (xor3 xs ys zs (k + 1) = xor3 xs ys zs k ++ [x ^^^ y ^^^ z]) := by
        rw [xor3_snoc, getD_of hx, getD_of hy, getD_of hz]; rfl
      have Hx := Lib.hid hx
      have Hy := Lib.hid hy
      have Hz := Lib.hid hz
      have hxo := xor8 x y
      have hxo2 := xor8 (x ^^^ y) z
      rw [UInt8.toNat_xor] at hxo hxo2
      rw [UInt8.toNat_xor] at hxo2
      have bx := x.toNat_lt
      have by' := y.toNat_lt
      have hlt' : (k : Int) < (n : Int) := by omega
      have hb1 : k + 1 ≤ maxLen := by unfold maxLen; omega
      have hb2 : (k + 1) * 1 ≤ 140737488355328 := by omega
      have hb4 : w.heap.size ≤ wr.heap.size := HB.out.size
      have hb3 : ∀ o, w.heap.size ≤ (wr.alloc o).drew.heap.size := fun o => by
        show w.heap.size ≤ (wr.alloc o).heap.size
        simp; omega
      clear hb hb' hb'' hx hy hz
      go_wp2_with fail
      go_region_held3 (fun w' => w'.cell? (ad.add k) = some (.int .u8 (x.toNat : Int)) ∧ w'.cell? (ad'.add k) = some (.int .u8 (y.toNat : Int)) ∧ w'.cell? (ad''.add k) = some (.int .u8 (z.toNat : Int)))
        (first | go_keep | exact ⟨hk1, hk2, hk3⟩)
        (first
          | (refine step_append_any _ (by rfl) _ _ _ (by rfl) w.heap.size 5 i0 (.int .u8 0) 1 1 Tryd.underlying22 hi.out hz0.out hz1.out hz2.out rfl (by omega) A0 k c0 _ (by rfl) ((Ho.out.alloc _).drew) (wr.heap.size + 1) _ 1 1 _ (by rfl) (reads_one wr _ _) (one_one rfl) hb1 hb2 (hb3 _) ?_
             intro A1 c1 w2 ho1 hg1 _hs1
             have hbw : Below w.heap.size w w2 := below_app ((HB.out.alloc hb4 _).drew) hg1 ((Ho.out.alloc _).drew) (hb3 _)
             have hk1 : w2.cell? (ad.add k) = some (.int .u8 (x.toNat : Int)) := ((H1.out.below hbw).cell_at Hx.out)
             have hk2 : w2.cell? (ad'.add k) = some (.int .u8 (y.toNat : Int)) := ((H2.out.below hbw).cell_at Hy.out)
             have hk3 : w2.cell? (ad''.add k) = some (.int .u8 (z.toNat : Int)) := ((H3.out.below hbw).cell_at Hz.out)
             replace ho1 := Lib.hid ho1; replace hbw := Lib.hid hbw; clear hg1))
      go_wp2_with fail
      go_roundw
      case rel =>
        refine ⟨k + 1, c1, A1, rfl, by go_num, by omega, hbw, ?_⟩
        have h := ho1.out
        rw [Hv.out, List.map_append]
        simpa [Hid, B8] using h
      case measure => simp [intOf]; omega
    · obtain rfl : k = n := by omega
      have Rx := Lib.hid (Reads.of_own Ho.out)
      have hcap := Lib.hid (own_cap Ho.out)
      have Hsum : Hid (Crcp.sum (xor3 xs ys zs k) = Crcp.sum xs ^^^ Crcp.sum ys ^^^ Crcp.sum zs) := by
        have e := L1.out
        subst e
        rw [xor3_zip xs ys zs (by rw [L2.out]) (by rw [L3.out])]
        exact Crcp.sum_xor3 xs ys zs (by rw [L2.out]) (by rw [L3.out])
      have sx := Crcp.sum_lt xs
      have sy := Crcp.sum_lt ys
      have sz := Crcp.sum_lt zs
      have hx1 := u32_xor_nat _ _ sx sy
      have hx2 := u32_xor_nat _ _ (Crcp.xor_lt _ _ sx sy) sz
      go_wp2_with fail
      refine (sum_any A0 k c0 _ _ wr (T.out.below HB.out T.out.pos) Rx.out (Nat.le_refl _) hcap.out.1 hcap.out.2).mono ?_; rintro e w2 ⟨rfl, hB2⟩
      have HB2 := Lib.hid (below_then HB.out hB2)
      clear hB2
      go_wp2_with fail
      refine (sum_any A k c w.heap.size xs w2 (T.out.below HB2.out T.out.pos) (H1.out.below HB2.out) HB2.out.size LM.out.1.1 LM.out.1.2).mono ?_; rintro e w3 ⟨rfl, hB3⟩
      have HB3 := Lib.hid (below_then HB2.out hB3)
      clear hB3
      go_wp2_with fail
      refine (sum_any B k c' w.heap.size ys w3 (T.out.below HB3.out T.out.pos) (H2.out.below HB3.out) HB3.out.size LM.out.2.1.1 LM.out.2.1.2).mono ?_; rintro e w4 ⟨rfl, hB4⟩
      have HB4 := Lib.hid (below_then HB3.out hB4)
      clear hB4
      go_wp2_with fail
      refine (sum_any D k c'' w.heap.size zs w4 (T.out.below HB4.out T.out.pos) (H3.out.below HB4.out) HB4.out.size LM.out.2.2.1 LM.out.2.2.2).mono ?_; rintro e w5 ⟨rfl, hB5⟩
      have HB5 := Lib.hid (below_then HB4.out hB5)
      clear hB5
      go_wp2_with fail
      go_ret
      exact ⟨ret_bool (by rw [Hsum.out]; simp), HB5.out⟩
end Go.Proofs.YtejbfndcaiphoaaDoor
