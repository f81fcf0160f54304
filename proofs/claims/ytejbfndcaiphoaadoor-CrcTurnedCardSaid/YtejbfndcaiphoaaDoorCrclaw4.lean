/-
  The walk of the law CrcTurned: it returns true, and nothing that was there has turned.
-/
import Derived.Test.YtejbfndcaiphoaaDoorCrclaw3
import Derived.Test.YtejbfndcaiphoaaDoorCrcp2
namespace Go.Proofs.YtejbfndcaiphoaaDoor
open Go.RowKit

theorem pow_step (r : Nat) (hr : r < 7) : 2 ^ r < 128 ∧ 2 ^ (r + 1) = 2 * 2 ^ r := by
  refine ⟨Nat.lt_of_lt_of_le (Nat.pow_lt_pow_right (by omega) hr) (by decide), by rw [Nat.pow_succ]; omega⟩
theorem own_addr {w : World} {base : Nat} {e : TypeId} {A : Option Addr} {n c : Nat} {xs : List Value} (h : w.ownsRow base e 1 (.slice A n c) n xs) (hn : 0 < n) : ∃ g, A = some ⟨g, 0, none⟩ ∧ base ≤ g := by
  rcases h.2 with ⟨_, h0⟩ | ⟨g, cap, cur, hv, hb, _⟩
  · omega
  · simp only [Value.slice.injEq] at hv
    exact ⟨g, hv.1, hb⟩

theorem own_less {w : World} {base base' : Nat} {e : TypeId} {size : Nat} {v : Value} {n : Nat} {xs : List Value} (h : w.ownsRow base e size v n xs) (hb : base' ≤ base) : w.ownsRow base' e size v n xs :=
  ⟨h.1, h.2.imp id fun ⟨g, cap, cur, hv, hg, r⟩ => ⟨g, cap, cur, hv, Nat.le_trans hb hg, r⟩⟩

set_option maxRecDepth 100000 in
set_option maxHeartbeats 4000000 in
theorem crcTurned_walk (A : Option Addr) (n c : Nat) (xs : List UInt8) (a pt : Nat) (w : World) (l1 : n ≤ c) (m1 : c ≤ maxLen) (h1 : Reads w w.heap.size 1 A n (xs.map B8)) (_ha : a < 65536) (hpt : pt < 4294967296) (ht : Tab w) :
    Calls Tryd.prog 7 #[.slice A n c, .int .u16 a, .int .u32 pt] w fun e w' => e = .returned (.bool true) ∧ Below w.heap.size w w' := by
  have T := Lib.hid ht
  have H := Lib.hid h1
  have L := Lib.hid h1.len
  have LM := Lib.hid (show n ≤ c ∧ c ≤ maxLen from ⟨l1, m1⟩)
  clear ht h1 l1 m1
  go_enter Tryd.func7, Tryd.ntmps7
  go_wp2_with fail
  refine (alive_any _ T.out).mono ?_; rintro e w1 ⟨rfl, hB1⟩
  have B1 := Lib.hid hB1
  clear hB1
  by_cases hn : (3000 : Int) < n
  · go_wp2_with fail
    go_ret
    exact ⟨rfl, B1.out⟩
  have hn2 : n ≤ 3000 := by omega
  clear hn
  by_cases hp0 : pt = 0
  · subst hp0
    go_wp2_with fail
    go_ret
    exact ⟨rfl, B1.out⟩
  have hp1 : ((pt : Int) == 0) = false := beq_eq_false_iff_ne.2 (by omega)
  clear hp0
  go_wp2_with fail
  clear hp1
  refine (put_any A n c w.heap.size xs w1 (T.out.below B1.out T.out.pos) (H.out.below B1.out) B1.out.size LM.out.1 LM.out.2 (by omega)).mono ?_; rintro e w2 ⟨A2, c2, rfl, hF2⟩
  have B2 := Lib.hid (below_then B1.out hF2.below)
  have P0 : Hid ((Crcp.put xs).length = n + 4) := by rw [Crcp.put_length, L.out]; rfl
  have K0 := Lib.hid (Crcp.cutOk_put xs)
  obtain ⟨g, rfl, hg⟩ := own_addr hF2.1 (by omega)
  have hgw : w.heap.size ≤ g := Nat.le_trans B1.out.size hg
  have O2 : Hid (w2.ownsRow w.heap.size 5 1 (.slice (some ⟨g, 0, none⟩) (n + 4) c2) (n + 4) ((Crcp.put xs).map B8)) := own_less hF2.1 B1.out.size
  clear hF2 hg
  generalize Crcp.put xs = p0 at *
  have hm0 : n + 4 ≤ 3004 ∧ 4 ≤ n + 4 := by omega
  clear L hn2
  obtain ⟨hm1, hm2⟩ := hm0
  clear H LM B1
  generalize n + 4 = m at *
  obtain ⟨f, hf, hfl⟩ : ∃ f : Nat, (a : Int) % (8 * (m : Int)) = (f : Int) ∧ f < 8 * m := ⟨a % (8 * m), by simp, Nat.mod_lt _ (by omega)⟩
  go_wp2_with fail
  rw [hf]
  clear hf
  go_loopw [2, 9, 10] (fun q tu i wr => ∃ (k y x : Nat) (b : Bool) (l : List UInt8), q = .int .u32 y ∧ y < 4294967296 ∧ tu = .bool b ∧ i = .int .i64 k ∧ k ≤ 32 ∧ Hid (b = true → x ≠ 0) ∧ Hid (x < 2 ^ k) ∧ Hid (l.length = m) ∧ Hid (Crcp.le l = Crcp.le p0 ^^^ 2 ^ f * x) ∧
      Hid (Below w.heap.size w wr) ∧ Hid (wr.ownsRow w.heap.size 5 1 (.slice (some ⟨g, 0, none⟩) m c2) m (l.map B8))) (fun _ _ i _ => 32 - (intOf i).toNat)
  case atStart => exact ⟨0, pt, 0, false, p0, rfl, hpt, rfl, rfl, by omega, (fun h => by cases h), Nat.one_pos, P0.out, (show Crcp.le p0 = Crcp.le p0 ^^^ 2 ^ f * 0 by simp), B2, O2⟩
  case round =>
    obtain ⟨k, y, x, b, l, rfl, hy, rfl, rfl, hk, Hb, Hx, Hl, He, HB, Ho⟩ := hrel
    by_cases hlt : k < 32
    · rcases (show (y : Int) % 2 = 1 ∨ (y : Int) % 2 = 0 by omega) with hodd | hodd
      · by_cases hfk : (f : Int) + (k : Int) < 8 * (m : Int)
        · go_wp2_with fail
          obtain ⟨j, r, hj, hr, hjr, hr8, hjm⟩ : ∃ j r : Nat, ((f : Int) + (k : Int)) / 8 = (j : Int) ∧ ((f : Int) + (k : Int)) % 8 = (r : Int) ∧ 8 * j + r = f + k ∧ r < 8 ∧ j < m :=
            ⟨(f + k) / 8, (f + k) % 8, by omega, by omega, by omega, by omega, by omega⟩
          go_loop [11, 12] (fun mv i => ∃ z : Nat, mv = .int .u8 ((2 ^ z : Nat) : Int) ∧ i = .int .i64 z ∧ z ≤ r) (fun _ i => 8 - (intOf i).toNat)
          case atStart => exact ⟨0, rfl, rfl, by omega⟩
          case round =>
            obtain ⟨z, rfl, rfl, hz⟩ := hrel
            by_cases hzr : z < r
            · obtain ⟨h128, hp2⟩ := pow_step z (by omega)
              have hzr' : (z : Int) < (r : Int) := by omega
              have H2 : Hid (∀ v : Int, v = 2 * ((2 ^ z : Nat) : Int) → v = ((2 ^ (z + 1) : Nat) : Int)) := fun v hv => by rw [hv, hp2]; rfl
              clear hp2
              generalize 2 ^ z = t at *
              go_wp2_with fail
              go_round
              case rel => exact ⟨z + 1, by rw [H2.out _ rfl], by go_num, by omega⟩
              case measure => simp [intOf]; omega
            · obtain rfl : z = r := by omega
              have hll : j < l.length := by rw [Hl.out]; exact hjm
              obtain ⟨cb, hcb⟩ : ∃ cb, l[j]? = some cb := ⟨l[j], List.getElem?_eq_getElem hll⟩
              have hcell : wr.cell? ⟨g, j, none⟩ = some (.int .u8 (cb.toNat : Int)) := by
                rw [Ho.out.cellAt j (by omega), List.getElem?_map, hcb]; rfl
              have hfro : wr.frozen? ⟨g, j, none⟩ = false := Ho.out.frozenAt j
              have h2z : 2 ^ z < 256 := Nat.lt_of_lt_of_le (Nat.pow_lt_pow_right (by omega) hr8) (by decide)
              have hxo := u8_xor_lit cb.toNat (2 ^ z) cb.toNat_lt h2z
              have bcb := cb.toNat_lt
              have Hs := Lib.hid (Crcp.le_step l p0 f k x j z cb He.out hcb hr8 hjr)
              have Hq := Lib.hid (Crcp.xor_pow_lt x k Hx.out)
              have Hc : Hid (∀ v : Int, v = ((cb.toNat ^^^ 2 ^ z : Nat) : Int) → Value.int .u8 v = B8 (cb ^^^ UInt8.ofNat (2 ^ z))) := fun v hv => by
                rw [hv, B8, UInt8.toNat_xor, UInt8.toNat_ofNat', Nat.mod_eq_of_lt h2z]
              clear hcb hll
              go_wp2_with fail
              have Hv : Value.int .u8 (bits .xor .u8 (cb.toNat : Int) (2 ^ z)) = B8 (cb ^^^ UInt8.ofNat (2 ^ z)) := Hc.out _ (by rw [← hxo]; simp)
              go_roundw
              case rel =>
                obtain ⟨ho2, hg2⟩ := Ho.out.stored j (Value.int .u8 (bits .xor .u8 (cb.toNat : Int) (2 ^ z)))
                refine ⟨k + 1, y / 2, x ^^^ 2 ^ k, true, l.set j (cb ^^^ UInt8.ofNat (2 ^ z)), by go_num, by omega, rfl, by go_num, by omega, fun _ => Hq.out.2, Hq.out.1, (by show (l.set j _).length = m; rw [List.length_set]; exact Hl.out), Hs.out, HB.out.setCell (p := ⟨g, j, none⟩) hgw _, ?_⟩
                show World.ownsRow _ _ _ _ _ _ _
                rw [List.map_set, ← Hv]
                exact ho2
              case measure => simp [intOf]; omega
        · go_wp2_with fail
          go_roundw
          case rel => exact ⟨k + 1, y / 2, x, b, l, by go_num, by omega, rfl, by go_num, by omega, Hb, Nat.lt_of_lt_of_le Hx.out (Nat.pow_le_pow_right (by omega) (by omega)), Hl, He, HB, Ho⟩
          case measure => simp [intOf]; omega
      · go_wp2_with fail
        go_roundw
        case rel => exact ⟨k + 1, y / 2, x, b, l, by go_num, by omega, rfl, by go_num, by omega, Hb, Nat.lt_of_lt_of_le Hx.out (Nat.pow_le_pow_right (by omega) (by omega)), Hl, He, HB, Ho⟩
        case measure => simp [intOf]; omega
    · obtain rfl : k = 32 := by omega
      have hcap := Lib.hid (own_cap Ho.out)
      go_wp2_with fail
      refine (cut_any (some ⟨g, 0, none⟩) m c2 l wr (T.out.below HB.out T.out.pos) (Reads.of_own Ho.out) hcap.out.1 hcap.out.2 (by omega)).mono ?_; rintro e w3 ⟨A3, c3, rfl, hF3⟩
      have B3 := Lib.hid (below_then HB.out hF3.below)
      clear hF3
      cases b
      · go_wp2_with fail
        go_ret
        exact ⟨rfl, B3.out⟩
      · have h5 : Crcp.cutE l = 5 := Crcp.cutE_turned p0 l f x (by rw [P0.out]; exact hm2) (by rw [P0.out, Hl.out]) K0.out (by rw [P0.out]; omega) Hx.out He.out (Hb.out rfl)
        rw [h5]
        go_wp2_with fail
        go_ret
        exact ⟨rfl, B3.out⟩
end Go.Proofs.YtejbfndcaiphoaaDoor
