/-
  The laws MatMay and MatMakes.
-/
import Derived.Test.YtbokbndphpdgoaaMatl
namespace Go.Proofs.Ytbokbndphpdgoaa
set_option linter.unusedSimpArgs false
set_option linter.unusedVariables false
open Go.RowKit

theorem below_boxed {w w' : World} {o : Obj} (h : Below (w.alloc o).heap.size (w.alloc o) w') : Below w.heap.size w w' := ((Below.refl _ _).alloc (Nat.le_refl _) _).trans (h.mono (by simp))
theorem boxedM {w w' : World} {v0 v1 v2 : Value} (h : Below (w.alloc (.cells #[v0, v1, v2] 24)).heap.size (w.alloc (.cells #[v0, v1, v2] 24)) w') :
    (Below (w.alloc (.cells #[v0, v1, v2] 24)).heap.size (w.alloc (.cells #[v0, v1, v2] 24)) w' ∧ w'.cell? ⟨w.heap.size, 0, none⟩ = some v0 ∧ w'.cell? ⟨w.heap.size, 1, none⟩ = some v1 ∧ w'.cell? ⟨w.heap.size, 2, none⟩ = some v2) := by
  have hb := (Blk.new w 24 #[v0, v1, v2]).below h (by simp)
  exact ⟨h, hb.cell 0, hb.cell 1, hb.cell 2⟩

set_option maxRecDepth 100000 in
set_option maxHeartbeats 1000000 in
theorem matMay_walk (r c : Int) (A : Option Addr) (n k : Nat) (bs : List UInt8) (w : World) (_hrc : (Lit.int .i64 r).wf = true ∧ (Lit.int .i64 c).wf = true) (_l : n ≤ k) (_m : k ≤ maxLen) (_h : Reads w w.heap.size 1 A n (bs.map B8)) :
    Calls Try.prog 3 #[.agg #[.int .i64 r, .int .i64 c, .slice A n k]] w fun e w' => e = .returned (.bool true) ∧ Below w.heap.size w w' := by
  clear _hrc _l _m _h
  have C1 := fun W => may_any r c A n k W
  have C2 := fun W => refMay_any r c A n k W
  unfold mC at C1 C2
  generalize Matp.may r c n = mb at *
  replace C1 := Lib.hid C1; replace C2 := Lib.hid C2
  go_enter Try.func3, Try.ntmps3
  go_wp2_with fail
  obtain ⟨-, z0, z1, z2⟩ := boxedM (Below.refl (w.alloc (.cells #[.int .i64 r, .int .i64 c, .slice A n k] 24)).heap.size (w.alloc (.cells #[.int .i64 r, .int .i64 c, .slice A n k] 24)))
  have hS0 := Below.refl (w.alloc (.cells #[.int .i64 r, .int .i64 c, .slice A n k] 24)).heap.size (w.alloc (.cells #[.int .i64 r, .int .i64 c, .slice A n k] 24))
  go_region_held3 (fun w' => Below (w.alloc (.cells #[.int .i64 r, .int .i64 c, .slice A n k] 24)).heap.size (w.alloc (.cells #[.int .i64 r, .int .i64 c, .slice A n k] 24)) w' ∧ w'.cell? ⟨w.heap.size, 0, none⟩ = some (.int .i64 r) ∧ w'.cell? ⟨w.heap.size, 1, none⟩ = some (.int .i64 c) ∧ w'.cell? ⟨w.heap.size, 2, none⟩ = some (.slice A n k))
    (first | assumption | (refine boxedM ?_; repeat (first | assumption | exact And.left (by assumption) | (with_reducible refine Below.drew ?_))))
    (first
      | (go_at_call 14; ((with_reducible refine (alive_any _).mono ?_); rintro e w1 ⟨rfl, hB1⟩; have hS1 := below_then (by repeat (first | assumption | exact And.left (by assumption) | (with_reducible refine Below.drew ?_))) hB1; obtain ⟨-, a10, a11, a12⟩ := boxedM hS1))
      | (go_at_call 15; ((with_reducible refine (C1.out _).mono ?_); rintro e w2 ⟨rfl, hB2⟩; have hS2 := below_then (by repeat (first | assumption | exact And.left (by assumption) | (with_reducible refine Below.drew ?_))) hB2; obtain ⟨-, a20, a21, a22⟩ := boxedM hS2))
      | (go_at_call 16; ((with_reducible refine (C2.out _).mono ?_); rintro e w3 ⟨rfl, hB3⟩; have hS3 := below_then (by repeat (first | assumption | exact And.left (by assumption) | (with_reducible refine Below.drew ?_))) hB3; obtain ⟨-, a30, a31, a32⟩ := boxedM hS3)))
  all_goals
    go_wp2_with fail
    go_ret
    exact ⟨rfl, below_boxed (by repeat (first | assumption | exact And.left (by assumption) | (with_reducible refine Below.drew ?_)))⟩

theorem own_keepL {w w' : World} {base n c size : Nat} {e : TypeId} {A : Option Addr} {xs : List Value} (h : w.ownsRow base e size (.slice A n c) n xs) (hk : Below w.heap.size w w') : w'.ownsRow base e size (.slice A n c) n xs := own_belowL h hk

set_option maxRecDepth 100000 in
set_option maxHeartbeats 4000000 in
theorem matMakes_walk (n k m : Int) (w : World) (hn : (Lit.int .i64 n).wf = true) (hk : (Lit.int .i64 k).wf = true) (hm : (Lit.int .i64 m).wf = true) :
    Calls Try.prog 4 #[.int .i64 n, .int .i64 k, .int .i64 m] w fun e w' => e = .returned (.bool true) ∧ Below w.heap.size w w' := by
  have hz := (zero_of_info info_m).1
  obtain ⟨r1, c1, cs1, er1, I1, I2⟩ : ∃ (r c : Nat) (cs : List UInt8) (er : Int), (∀ W, Calls Try.prog 17 #[.int .i64 n] W (MRet W r c cs er)) ∧ (∀ W, Calls Try.prog 18 #[.int .i64 n] W (MRet W r c cs er)) := by
    by_cases h : Matp.wi n = true
    · obtain ⟨a, rfl, ha⟩ : ∃ a : Nat, n = (a : Int) ∧ a ≤ 255 := by
        unfold Matp.wi at h; simp at h; exact ⟨n.toNat, by omega, by omega⟩
      exact ⟨a, a, _, 0, fun W => identity_in a W ha, fun W => refIdentity_in a W ha⟩
    · have h' : Matp.wi n = false := by simpa using h
      exact ⟨0, 0, [], 13, fun W => identity_out n W h', fun W => refIdentity_out n W h'⟩
  obtain ⟨r2, c2, cs2, er2, K1, K2⟩ : ∃ (r c : Nat) (cs : List UInt8) (er : Int), (∀ W, Calls Try.prog 20 #[.int .i64 k, .int .i64 m] W (MRet W r c cs er)) ∧ (∀ W, Calls Try.prog 21 #[.int .i64 k, .int .i64 m] W (MRet W r c cs er)) := by
    by_cases h : cauOk k m = true
    · obtain ⟨a, b, rfl, rfl, hab⟩ : ∃ a b : Nat, k = (a : Int) ∧ m = (b : Int) ∧ a + b ≤ 255 := by
        unfold cauOk at h; simp only [decide_eq_true_eq] at h; exact ⟨k.toNat, m.toNat, by omega, by omega, by omega⟩
      exact ⟨b, a, _, 0, fun W => cauchy_in a b W hab, fun W => refCauchy_in a b W hab⟩
    · have h' : cauOk k m = false := by simpa using h
      exact ⟨0, 0, [], 13, fun W => cauchy_out k m W h', fun W => refCauchy_out k m W h'⟩
  replace I1 := Lib.hid I1; replace I2 := Lib.hid I2; replace K1 := Lib.hid K1; replace K2 := Lib.hid K2
  unfold MRet mC at I1 I2 K1 K2
  go_enter Try.func4, Try.ntmps4
  go_wp2_with fail
  refine (alive_any _).mono ?_; rintro e w1 ⟨rfl, hB1⟩
  have HB1 := Lib.hid hB1
  clear hB1
  go_wp2_with fail
  refine (I1.out _).mono ?_; rintro e w2 ⟨A2, k2, rfl, ho2, hB2⟩
  have HB2 := Lib.hid (below_then HB1.out hB2)
  replace ho2 := Lib.hid ho2
  clear hB2
  go_wp2_with fail
  have hbA1 : Blk (w2.alloc (.cells #[.int .i64 (r1 : Nat), .int .i64 (c1 : Nat), .slice A2 cs1.length k2] 24)) w2.heap.size 24 #[.int .i64 (r1 : Nat), .int .i64 (c1 : Nat), .slice A2 cs1.length k2] := Blk.new _ _ _
  have hoA := ho2.out.alloc (.cells #[.int .i64 (r1 : Nat), .int .i64 (c1 : Nat), .slice A2 cs1.length k2] 24)
  have hBA : Below w.heap.size w (w2.alloc (.cells #[.int .i64 (r1 : Nat), .int .i64 (c1 : Nat), .slice A2 cs1.length k2] 24)) := below_alloc HB2.out _
  generalize w2.alloc (.cells #[.int .i64 (r1 : Nat), .int .i64 (c1 : Nat), .slice A2 cs1.length k2] 24) = wA1 at *
  generalize hgA1 : w2.heap.size = gA1 at *
  clear hgA1
  replace hbA1 := Lib.hid hbA1; replace hoA := Lib.hid hoA; replace hBA := Lib.hid hBA
  refine (I2.out _).mono ?_; rintro e w31 ⟨A31, k31, rfl, ho3, hB3⟩
  have HB3 := Lib.hid (below_then hBA.out hB3)
  have hb3 := Lib.hid (hbA1.out.below hB3 hbA1.out.lt)
  have hoA31 := Lib.hid (own_belowL hoA.out hB3)
  replace ho3 := Lib.hid ho3
  clear hB3 hBA hbA1 hoA ho2 HB2
  have hbB : Blk (w31.alloc (.cells #[.int .i64 (r1 : Nat), .int .i64 (c1 : Nat), .slice A31 cs1.length k31] 24)) w31.heap.size 24 #[.int .i64 (r1 : Nat), .int .i64 (c1 : Nat), .slice A31 cs1.length k31] := Blk.new _ _ _
  have hbA1B := hb3.out.alloc (.cells #[.int .i64 (r1 : Nat), .int .i64 (c1 : Nat), .slice A31 cs1.length k31] 24)
  have hRA := Reads.of_own (hoA31.out.alloc (.cells #[.int .i64 (r1 : Nat), .int .i64 (c1 : Nat), .slice A31 cs1.length k31] 24))
  have hRB := Reads.of_own (ho3.out.alloc (.cells #[.int .i64 (r1 : Nat), .int .i64 (c1 : Nat), .slice A31 cs1.length k31] 24))
  have hBB : Below w.heap.size w (w31.alloc (.cells #[.int .i64 (r1 : Nat), .int .i64 (c1 : Nat), .slice A31 cs1.length k31] 24)) := below_alloc HB3.out _
  have S := Lib.hid (sameM_any (r1 : Nat) (c1 : Nat) A2 A31 cs1.length k2 cs1.length k31 cs1 _ hRA hRB)
  unfold mC at S
  have x0 := hbA1B.cell 0
  have x1 := hbA1B.cell 1
  have x2 := hbA1B.cell 2
  have y0 := hbB.cell 0
  have y1 := hbB.cell 1
  have y2 := hbB.cell 2
  simp only [List.getElem?_toArray, List.getElem?_cons_zero, List.getElem?_cons_succ] at x0 x1 x2 y0 y1 y2
  clear hbA1B hRA hRB hbB
  go_wp2_with fail
  refine S.out.mono ?_; rintro e w41 ⟨rfl, hB4⟩
  have HB41 := Lib.hid (below_then hBB hB4)
  clear hB4 hBB x0 x1 x2 y0 y1 y2 S hb3 hoA31 ho3 HB3
  have hkmb : (0 < k ∧ 0 < m ∧ k ≤ 255 ∧ m ≤ 255) → (0 ≤ k * m ∧ k * m ≤ 65025) := fun ⟨h1, h2, h3, h4⟩ => ⟨Int.mul_nonneg (by omega) (by omega), by
    calc k * m ≤ 255 * m := Int.mul_le_mul_of_nonneg_right h3 (by omega)
      _ ≤ 255 * 255 := Int.mul_le_mul_of_nonneg_left h4 (by omega)
      _ = 65025 := rfl⟩
  have hcases : (0 < k ∧ 0 < m ∧ k ≤ 255 ∧ m ≤ 255 ∧ 600 < k * m ∧ k + m ≤ 255 ∧ k * m ≤ 65025) ∨ (k ≤ 0 ∨ (0 < k ∧ m ≤ 0) ∨ (0 < k ∧ 0 < m ∧ 255 < k) ∨ (0 < k ∧ 0 < m ∧ k ≤ 255 ∧ 255 < m) ∨ (0 < k ∧ 0 < m ∧ k ≤ 255 ∧ m ≤ 255 ∧ k * m ≤ 600 ∧ 0 ≤ k * m) ∨ (0 < k ∧ 0 < m ∧ k ≤ 255 ∧ m ≤ 255 ∧ 600 < k * m ∧ 255 < k + m ∧ k * m ≤ 65025)) := by
    generalize k * m = p at *
    omega
  clear hkmb
  rcases hcases with ⟨h1, h2, h3, h4, h5, h6, h7⟩ | hcases
  · skip
    go_wp2_with fail
    go_ret
    exact ⟨rfl, HB41.out⟩
  rcases hcases with h1 | ⟨h1, h2⟩ | ⟨h1, h2, h3⟩ | ⟨h1, h2, h3, h4⟩ | ⟨h1, h2, h3, h4, h5, h6⟩ | ⟨h1, h2, h3, h4, h5, h6, h7⟩
  all_goals
    go_wp2_with fail
    refine (K1.out _).mono ?_; rintro e w5 ⟨A5, k5, rfl, ho5, hB5⟩
    have HB5 := Lib.hid (below_then HB41.out hB5)
    replace ho5 := Lib.hid ho5
    clear hB5
    go_wp2_with fail
    have hbA2 : Blk (w5.alloc (.cells #[.int .i64 (r2 : Nat), .int .i64 (c2 : Nat), .slice A5 cs2.length k5] 24)) w5.heap.size 24 #[.int .i64 (r2 : Nat), .int .i64 (c2 : Nat), .slice A5 cs2.length k5] := Blk.new _ _ _
    have hoA := ho5.out.alloc (.cells #[.int .i64 (r2 : Nat), .int .i64 (c2 : Nat), .slice A5 cs2.length k5] 24)
    have hBA : Below w.heap.size w (w5.alloc (.cells #[.int .i64 (r2 : Nat), .int .i64 (c2 : Nat), .slice A5 cs2.length k5] 24)) := below_alloc HB5.out _
    generalize w5.alloc (.cells #[.int .i64 (r2 : Nat), .int .i64 (c2 : Nat), .slice A5 cs2.length k5] 24) = wA2 at *
    generalize hgA2 : w5.heap.size = gA2 at *
    clear hgA2
    replace hbA2 := Lib.hid hbA2; replace hoA := Lib.hid hoA; replace hBA := Lib.hid hBA
    refine (K2.out _).mono ?_; rintro e w32 ⟨A32, k32, rfl, ho3, hB3⟩
    have HB3 := Lib.hid (below_then hBA.out hB3)
    have hb3 := Lib.hid (hbA2.out.below hB3 hbA2.out.lt)
    have hoA32 := Lib.hid (own_belowL hoA.out hB3)
    replace ho3 := Lib.hid ho3
    clear hB3 hBA hbA2 hoA ho5 HB5
    have hbB : Blk (w32.alloc (.cells #[.int .i64 (r2 : Nat), .int .i64 (c2 : Nat), .slice A32 cs2.length k32] 24)) w32.heap.size 24 #[.int .i64 (r2 : Nat), .int .i64 (c2 : Nat), .slice A32 cs2.length k32] := Blk.new _ _ _
    have hbA2B := hb3.out.alloc (.cells #[.int .i64 (r2 : Nat), .int .i64 (c2 : Nat), .slice A32 cs2.length k32] 24)
    have hRA := Reads.of_own (hoA32.out.alloc (.cells #[.int .i64 (r2 : Nat), .int .i64 (c2 : Nat), .slice A32 cs2.length k32] 24))
    have hRB := Reads.of_own (ho3.out.alloc (.cells #[.int .i64 (r2 : Nat), .int .i64 (c2 : Nat), .slice A32 cs2.length k32] 24))
    have hBB : Below w.heap.size w (w32.alloc (.cells #[.int .i64 (r2 : Nat), .int .i64 (c2 : Nat), .slice A32 cs2.length k32] 24)) := below_alloc HB3.out _
    have S := Lib.hid (sameM_any (r2 : Nat) (c2 : Nat) A5 A32 cs2.length k5 cs2.length k32 cs2 _ hRA hRB)
    unfold mC at S
    have x0 := hbA2B.cell 0
    have x1 := hbA2B.cell 1
    have x2 := hbA2B.cell 2
    have y0 := hbB.cell 0
    have y1 := hbB.cell 1
    have y2 := hbB.cell 2
    simp only [List.getElem?_toArray, List.getElem?_cons_zero, List.getElem?_cons_succ] at x0 x1 x2 y0 y1 y2
    clear hbA2B hRA hRB hbB
    go_wp2_with fail
    refine S.out.mono ?_; rintro e w42 ⟨rfl, hB4⟩
    have HB42 := Lib.hid (below_then hBB hB4)
    clear hB4 hBB x0 x1 x2 y0 y1 y2 S hb3 hoA32 ho3 HB3
    go_wp2_with fail
    go_ret
    exact ⟨rfl, HB42.out⟩
end Go.Proofs.Ytbokbndphpdgoaa
