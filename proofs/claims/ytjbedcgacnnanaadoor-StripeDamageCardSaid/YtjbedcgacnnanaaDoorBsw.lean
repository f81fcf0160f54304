/-
  Texts put together: Stv Stw.
-/
import Derived.Test.YtjbedcgacnnanaaDoorSts
import Derived.Test.YtjbedcgacnnanaaDoorBsl
import Derived.Test.YtjbedcgacnnanaaDoorBop
namespace Go.Proofs.YtjbedcgacnnanaaDoor
set_option linter.unusedSimpArgs false
set_option linter.unusedVariables false
open Go.RowKit

theorem Stp.law_shp {k m ch n : Nat} (h1 : 1 ≤ k) (h2 : k ≤ 6) (h3 : m ≤ 4) (h4 : 1 ≤ ch) (h5 : ch ≤ 24) (h6 : n ≤ 600) : Shp k m ch n (Stp.num (k * ch) n) (k * ch) ((k + m) * (ch + 4)) (Stp.num (k * ch) n * (k * ch)) (Stp.size k m ch n) ∧ Stp.size k m ch n ≤ 168000 := by
  have a : Stp.num (k * ch) n ≤ n := Stp.num_le (Stp.data_pos h1 h4)
  have b : (k + m) * (ch + 4) ≤ 10 * 28 := Nat.mul_le_mul (by omega) (by omega)
  have c : Stp.size k m ch n ≤ 600 * 280 := Nat.mul_le_mul (by omega) (by omega)
  exact ⟨⟨h1, by omega, h4, by omega, by omega, rfl, rfl, rfl, rfl, rfl, by omega⟩, by omega⟩
set_option maxRecDepth 100000 in
set_option maxHeartbeats 4000000 in
theorem of_any (a b c : Nat) (w : World) (ha : a < 256) (hb : b < 256) (hc : c < 256) :
    Calls Tryd.prog 18 #[.agg #[.int .u8 a, .int .u8 b, .int .u8 c]] w fun e w' => e = .returned (.tuple #[.int .i64 ((1 + a % 6 : Nat) : Int), .int .i64 ((b % 5 : Nat) : Int), .int .i64 ((1 + c % 24 : Nat) : Int)]) ∧ Below w.heap.size w w' := by
  have hbk := Blk.new w 38 #[.int .u8 a, .int .u8 b, .int .u8 c]
  have hB := Lib.hid ((Below.refl w.heap.size w).alloc (Nat.le_refl _) (.cells #[.int .u8 a, .int .u8 b, .int .u8 c] 38))
  have q0 := hbk.cell 0
  have q1 := hbk.cell 1
  have q2 := hbk.cell 2
  have wa : IntKind.i64.wrap (a : Int) = (a : Int) := by rw [IntKind.wrap_i64]; omega
  have wb : IntKind.i64.wrap (b : Int) = (b : Int) := by rw [IntKind.wrap_i64]; omega
  have wc : IntKind.i64.wrap (c : Int) = (c : Int) := by rw [IntKind.wrap_i64]; omega
  have ma : (a : Int).tmod 6 = ((a % 6 : Nat) : Int) := by rw [Int.tmod_eq_emod_of_nonneg (by omega)]; rfl
  have mb : (b : Int).tmod 5 = ((b % 5 : Nat) : Int) := by rw [Int.tmod_eq_emod_of_nonneg (by omega)]; rfl
  have mc : (c : Int).tmod 24 = ((c % 24 : Nat) : Int) := by rw [Int.tmod_eq_emod_of_nonneg (by omega)]; rfl
  have la : a % 6 < 6 := Nat.mod_lt _ (by omega)
  have lb : b % 5 < 5 := Nat.mod_lt _ (by omega)
  have lc : c % 24 < 24 := Nat.mod_lt _ (by omega)
  generalize a % 6 = x at *
  generalize b % 5 = y at *
  generalize c % 24 = z at *
  have wx : IntKind.i64.wrap (x : Int) = (x : Int) := by rw [IntKind.wrap_i64]; omega
  have wy : IntKind.i64.wrap (y : Int) = (y : Int) := by rw [IntKind.wrap_i64]; omega
  have wz : IntKind.i64.wrap (z : Int) = (z : Int) := by rw [IntKind.wrap_i64]; omega
  have sx : IntKind.i64.wrap (1 + (x : Int)) = ((1 + x : Nat) : Int) := by rw [IntKind.wrap_i64]; omega
  have sz : IntKind.i64.wrap (1 + (z : Int)) = ((1 + z : Nat) : Int) := by rw [IntKind.wrap_i64]; omega
  generalize 1 + x = x1 at *
  generalize 1 + z = z1 at *
  clear hbk
  go_enter Tryd.func18, Tryd.ntmps18
  go_wp2_with fail
  generalize w.alloc (.cells #[.int .u8 a, .int .u8 b, .int .u8 c] 38) = w1 at *
  refine region_E 17 (fun W => W.cell? ⟨w.heap.size, 0, none⟩ = some (.int .u8 a) ∧ W.cell? ⟨w.heap.size, 1, none⟩ = some (.int .u8 b) ∧ W.cell? ⟨w.heap.size, 2, none⟩ = some (.int .u8 c)) (by kernel_rfl) ⟨q0, q1, q2⟩ (fun hHeld => ?_)
  refine took 0 (v := ?_) rfl (by kernel_rfl) (by kernel_rfl) (by kernel_rfl) (by kernel_rfl) (fun _ _ _ h => h) (by rfl) (by assumption) ?_ ?_
  rotate_left
  · (intro W hSw; (try dsimp only at hSw); go_simp; first | done | with_reducible rfl)
  try simp only [Act.put, List.setIfInBounds_toArray, List.set_cons_zero, List.set_cons_succ]
  refine took 1 (v := ?_) rfl (by kernel_rfl) (by kernel_rfl) (by kernel_rfl) (by kernel_rfl) (fun _ _ _ h => h) (by rfl) (by assumption) ?_ ?_
  rotate_left
  · (intro W hSw; (try dsimp only at hSw); go_simp; first | done | with_reducible rfl)
  try simp only [Act.put, List.setIfInBounds_toArray, List.set_cons_zero, List.set_cons_succ]
  refine took 2 (v := ?_) rfl (by kernel_rfl) (by kernel_rfl) (by kernel_rfl) (by kernel_rfl) (fun _ _ _ h => h) (by rfl) (by assumption) ?_ ?_
  rotate_left
  · (intro W hSw; (try dsimp only at hSw); go_simp; first | done | with_reducible rfl)
  try simp only [Act.put, List.setIfInBounds_toArray, List.set_cons_zero, List.set_cons_succ]
  refine took 3 (v := ?_) rfl (by kernel_rfl) (by kernel_rfl) (by kernel_rfl) (by kernel_rfl) (fun _ _ _ h => h) (by rfl) (by assumption) ?_ ?_
  rotate_left
  · (intro W hSw; (try dsimp only at hSw); go_simp; first | done | with_reducible rfl)
  try simp only [Act.put, List.setIfInBounds_toArray, List.set_cons_zero, List.set_cons_succ]
  refine took 4 (v := ?_) rfl (by kernel_rfl) (by kernel_rfl) (by kernel_rfl) (by kernel_rfl) (fun _ _ _ h => h) (by rfl) (by assumption) ?_ ?_
  rotate_left
  · (intro W hSw; (try dsimp only at hSw); go_simp; first | done | with_reducible rfl)
  try simp only [Act.put, List.setIfInBounds_toArray, List.set_cons_zero, List.set_cons_succ]
  refine took 5 (v := ?_) rfl (by kernel_rfl) (by kernel_rfl) (by kernel_rfl) (by kernel_rfl) (fun _ _ _ h => h) (by rfl) (by assumption) ?_ ?_
  rotate_left
  · (intro W hSw; (try dsimp only at hSw); go_simp; first | done | with_reducible rfl)
  try simp only [Act.put, List.setIfInBounds_toArray, List.set_cons_zero, List.set_cons_succ]
  refine took 6 (v := ?_) rfl (by kernel_rfl) (by kernel_rfl) (by kernel_rfl) (by kernel_rfl) (fun _ _ _ h => h) (by rfl) (by assumption) ?_ ?_
  rotate_left
  · (intro W hSw; (try dsimp only at hSw); go_simp; first | done | with_reducible rfl)
  try simp only [Act.put, List.setIfInBounds_toArray, List.set_cons_zero, List.set_cons_succ]
  refine took 7 (v := ?_) rfl (by kernel_rfl) (by kernel_rfl) (by kernel_rfl) (by kernel_rfl) (fun _ _ _ h => h) (by rfl) (by assumption) ?_ ?_
  rotate_left
  · (intro W hSw; (try dsimp only at hSw); go_simp; first | done | with_reducible rfl)
  try simp only [Act.put, List.setIfInBounds_toArray, List.set_cons_zero, List.set_cons_succ]
  refine took 8 (v := ?_) rfl (by kernel_rfl) (by kernel_rfl) (by kernel_rfl) (by kernel_rfl) (fun _ _ _ h => h) (by rfl) (by assumption) ?_ ?_
  rotate_left
  · (intro W hSw; (try dsimp only at hSw); go_simp; first | done | with_reducible rfl)
  try simp only [Act.put, List.setIfInBounds_toArray, List.set_cons_zero, List.set_cons_succ]
  refine took 9 (v := ?_) rfl (by kernel_rfl) (by kernel_rfl) (by kernel_rfl) (by kernel_rfl) (fun _ _ _ h => h) (by rfl) (by assumption) ?_ ?_
  rotate_left
  · (intro W hSw; (try dsimp only at hSw); go_simp; first | done | with_reducible rfl)
  try simp only [Act.put, List.setIfInBounds_toArray, List.set_cons_zero, List.set_cons_succ]
  refine took 10 (v := ?_) rfl (by kernel_rfl) (by kernel_rfl) (by kernel_rfl) (by kernel_rfl) (fun _ _ _ h => h) (by rfl) (by assumption) ?_ ?_
  rotate_left
  · (intro W hSw; (try dsimp only at hSw); go_simp; first | done | with_reducible rfl)
  try simp only [Act.put, List.setIfInBounds_toArray, List.set_cons_zero, List.set_cons_succ]
  refine took 11 (v := ?_) rfl (by kernel_rfl) (by kernel_rfl) (by kernel_rfl) (by kernel_rfl) (fun _ _ _ h => h) (by rfl) (by assumption) ?_ ?_
  rotate_left
  · (intro W hSw; (try dsimp only at hSw); go_simp; first | done | with_reducible rfl)
  try simp only [Act.put, List.setIfInBounds_toArray, List.set_cons_zero, List.set_cons_succ]
  refine took 12 (v := ?_) rfl (by kernel_rfl) (by kernel_rfl) (by kernel_rfl) (by kernel_rfl) (fun _ _ _ h => h) (by rfl) (by assumption) ?_ ?_
  rotate_left
  · (intro W hSw; (try dsimp only at hSw); go_simp; first | done | with_reducible rfl)
  try simp only [Act.put, List.setIfInBounds_toArray, List.set_cons_zero, List.set_cons_succ]
  refine took 13 (v := ?_) rfl (by kernel_rfl) (by kernel_rfl) (by kernel_rfl) (by kernel_rfl) (fun _ _ _ h => h) (by rfl) (by assumption) ?_ ?_
  rotate_left
  · (intro W hSw; (try dsimp only at hSw); go_simp; first | done | with_reducible rfl)
  try simp only [Act.put, List.setIfInBounds_toArray, List.set_cons_zero, List.set_cons_succ]
  refine took 14 (v := ?_) rfl (by kernel_rfl) (by kernel_rfl) (by kernel_rfl) (by kernel_rfl) (fun _ _ _ h => h) (by rfl) (by assumption) ?_ ?_
  rotate_left
  · (intro W hSw; (try dsimp only at hSw); go_simp; first | done | with_reducible rfl)
  try simp only [Act.put, List.setIfInBounds_toArray, List.set_cons_zero, List.set_cons_succ]
  refine took 15 (v := ?_) rfl (by kernel_rfl) (by kernel_rfl) (by kernel_rfl) (by kernel_rfl) (fun _ _ _ h => h) (by rfl) (by assumption) ?_ ?_
  rotate_left
  · (intro W hSw; (try dsimp only at hSw); go_simp; first | done | with_reducible rfl)
  try simp only [Act.put, List.setIfInBounds_toArray, List.set_cons_zero, List.set_cons_succ]
  refine took 16 (v := ?_) rfl (by kernel_rfl) (by kernel_rfl) (by kernel_rfl) (by kernel_rfl) (fun _ _ _ h => h) (by rfl) (by assumption) ?_ ?_
  rotate_left
  · (intro W hSw; (try dsimp only at hSw); go_simp; first | done | with_reducible rfl)
  try simp only [Act.put, List.setIfInBounds_toArray, List.set_cons_zero, List.set_cons_succ]
  refine allDone (by kernel_rfl) ?_ _
  clear hHeld
  go_wp2_with fail
  go_ret3
  exact ⟨rfl, hB.out.drew⟩
set_option maxRecDepth 100000 in
set_option maxHeartbeats 4000000 in
theorem stripeBack_walk (a b c0 : Nat) (A : Option Addr) (n c : Nat) (bs : List UInt8) (w : World) (hs : a < 256 ∧ b < 256 ∧ c0 < 256) (hnc : n ≤ c) (hcm : c ≤ maxLen) (hr : Reads w w.heap.size 1 A n (bs.map B8)) (ht : Tab w) :
    Calls Tryd.prog 6 #[.agg #[.int .u8 a, .int .u8 b, .int .u8 c0], .slice A n c] w fun e w' => e = .returned (.bool true) ∧ Below w.heap.size w w' := by
  have KA := Lib.hid (fun W (hB : Below w.heap.size w W) => stAlive_any W (ht.below hB ht.pos))
  have KO := Lib.hid (fun W => of_any a b c0 W hs.1 hs.2.1 hs.2.2)
  have hn := hr.len
  have hbk := Blk.new w 38 #[.int .u8 a, .int .u8 b, .int .u8 c0]
  have hBA := (Below.refl w.heap.size w).alloc (Nat.le_refl _) (.cells #[.int .u8 a, .int .u8 b, .int .u8 c0] 38)
  obtain ⟨k, hk⟩ : ∃ k, 1 + a % 6 = k := ⟨_, rfl⟩
  obtain ⟨m, hm⟩ : ∃ m, b % 5 = m := ⟨_, rfl⟩
  obtain ⟨ch, hch⟩ : ∃ ch, 1 + c0 % 24 = ch := ⟨_, rfl⟩
  have k1 : 1 ≤ k ∧ k ≤ 6 := by omega
  have m1 : m ≤ 4 := by omega
  have ch1 : 1 ≤ ch ∧ ch ≤ 24 := by omega
  rw [hk, hm, hch] at KO
  replace hk := Lib.hid hk; replace hm := Lib.hid hm; replace hch := Lib.hid hch
  obtain ⟨W1, hW1⟩ : ∃ W1, w.alloc (.cells #[.int .u8 a, .int .u8 b, .int .u8 c0] 38) = W1 := ⟨_, rfl⟩
  have hbk1 : Blk W1 w.heap.size 38 #[.int .u8 a, .int .u8 b, .int .u8 c0] := hW1 ▸ hbk
  have hB1 : Below w.heap.size w W1 := hW1 ▸ hBA
  clear hbk hBA
  by_cases hl : 600 < n
  · have hl' : (600 : Int) < (n : Int) := by omega
    have KA1 := Lib.hid (KA.out W1 hB1)
    replace hB1 := Lib.hid hB1; replace hbk1 := Lib.hid hbk1; replace hW1 := Lib.hid hW1
    clear KA hr ht
    go_enter Tryd.func6, Tryd.ntmps6
    go_wp2_with fail
    rw [hW1.out]
    refine KA1.out.mono ?_; rintro e w2 ⟨rfl, hB2⟩
    have HB2 := Lib.hid (hB1.out.trans (hB2.mono hB1.out.size))
    clear hB2
    go_wp2_with fail
    go_ret
    exact ⟨rfl, HB2.out⟩
  · have hl' : ¬ (600 : Int) < (n : Int) := by omega
    obtain ⟨sh, hsz⟩ := Stp.law_shp k1.1 k1.2 m1 ch1.1 ch1.2 (show n ≤ 600 by omega)
    have hh := Stp.hurt_none sh hn
    have hrd := Stp.hurt_read sh hn (by rw [Stp.layV_len (Stp.data_pos k1.1 ch1.1), hn]) hh.1
    rw [hh.2] at hrd
    have KL := Lib.hid (fun W (hB : Below w.heap.size w W) => lay_in k m ch n _ _ _ _ _ A c bs W sh (ht.below hB ht.pos) ((hr.below hB).more hB.size) hnc hcm)
    have KR := Lib.hid (fun W (hB : Below w.heap.size w W) (A' : Option Addr) (c' : Nat) (h1 : Stp.size k m ch n ≤ c') (h2 : c' ≤ maxLen) (hx : Reads W W.heap.size 1 A' (Stp.size k m ch n) ((Stp.layV k m ch bs).map B8)) => read_in k m ch n _ _ _ _ _ A' c' (Stp.layV k m ch bs) W sh (ht.below hB ht.pos) hx h1 h2)
    unfold SlErrN at KL
    rw [hrd.1, hrd.2.1, hrd.2.2] at KR
    unfold RdRet at KR
    rw [hn] at KR
    have HRB := Lib.hid (fun W (hB : Below w.heap.size w W) => (hr.below hB).more hB.size)
    have KA1 := Lib.hid (KA.out W1 hB1)
    generalize Stp.size k m ch n = T at *
    generalize Stp.layV k m ch bs = V at *
    replace hB1 := Lib.hid hB1; replace hbk1 := Lib.hid hbk1; replace hW1 := Lib.hid hW1
    clear KA hr ht sh hrd hh hn
    go_enter Tryd.func6, Tryd.ntmps6
    go_wp2_with fail
    rw [hW1.out]
    refine KA1.out.mono ?_; rintro e w2 ⟨rfl, hB2⟩
    have hbk2 := hbk1.out.below hB2 hbk1.out.lt
    have q0 := hbk2.cell 0
    have q1 := hbk2.cell 1
    have q2 := hbk2.cell 2
    have HB2 := Lib.hid (hB1.out.trans (hB2.mono hB1.out.size))
    clear hB2 hbk2
    go_wp2_with fail
    refine (KO.out _).mono ?_; rintro e w3 ⟨rfl, hB3⟩
    have HB3 := Lib.hid (below_then HB2.out hB3)
    have KL3 := Lib.hid (KL.out w3 HB3.out)
    clear hB3 q0 q1 q2
    go_wp2_with fail
    refine KL3.out.mono ?_; rintro e w4 ⟨A4, c4, rfl, hf4⟩
    have HB4 := Lib.hid (below_then HB3.out hf4.2)
    have hcap := own_cap hf4.1
    have KR4 := Lib.hid (KR.out w4 HB4.out A4 c4 hcap.1 hcap.2 hf4.reads)
    clear KL3 hf4 hcap
    go_wp2_with fail
    refine KR4.out.mono ?_; rintro e w5 ⟨A5, c5, A6, c6, rfl, hr5, hr6, hB5⟩
    have HB5 := Lib.hid (below_then HB4.out hB5)
    have KS := Lib.hid (same_any A5 A n n c5 c _ _ bs bs w5 hr5 (HRB.out w5 HB5.out))
    rw [decide_eq_true rfl] at KS
    clear KR4 hr5 hr6 hB5
    go_wp2_with fail
    refine KS.out.mono ?_; rintro e w6 ⟨rfl, rfl⟩
    go_wp2_with fail
    go_ret
    exact ⟨rfl, HB5.out⟩
end Go.Proofs.YtjbedcgacnnanaaDoor

namespace Go.Proofs.YtjbedcgacnnanaaDoor
set_option linter.unusedSimpArgs false
set_option linter.unusedVariables false
open Go.RowKit

namespace Stp
section
variable {k m ch q i inn : Nat} {x y : List UInt8}
/-- chunk i in its stripe -/
theorem cs_at (hq : k + m = q) (h0 : 0 < q) : (csAt k m ch y (i / q))[i % q]? = some (chunkB y (ch + 4) i) := by
  subst hq
  have h := cs_get (k := k) (m := m) (ch := ch) (s := y) (t := i / (k + m)) (Nat.mod_lt i h0)
  rw [show i / (k + m) * (k + m) + i % (k + m) = i by rw [Nat.mul_comm]; exact Nat.div_add_mod _ _] at h
  exact h
theorem gd_at (hq : k + m = q) (h0 : 0 < q) : (Rsp.gd (goodL (csAt k m ch y (i / q))) (i % q + 1)).length = (Rsp.gd (goodL (csAt k m ch y (i / q))) (i % q)).length + (if goodB (chunkB y (ch + 4) i) = true then 1 else 0) := by
  rw [gd_succ, List.getD_eq_getElem?_getD, goodL_get (cs_at hq h0)]
  rfl
theorem gd_rest (g : List Bool) (i : Nat) : ∀ d, (Rsp.gd g (i + d)).length ≤ (Rsp.gd g i).length + d
  | 0 => Nat.le_refl _
  | d + 1 => by
    have := gd_rest g i d
    rw [← Nat.add_assoc, gd_succ]
    split <;> omega
theorem next_at (h0 : 0 < q) : (i % q + 1 < q ∧ (i + 1) / q = i / q ∧ (i + 1) % q = i % q + 1) ∨ (i % q + 1 = q ∧ (i + 1) % q = 0 ∧ i + 1 = (i / q + 1) * q) := by
  have h1 := Nat.div_add_mod i q
  have h2 := Nat.mod_lt i h0
  by_cases h : i % q + 1 < q
  · refine .inl ⟨h, ?_, ?_⟩
    · rw [show i + 1 = i % q + 1 + q * (i / q) by omega, Nat.add_mul_div_left _ _ h0, Nat.div_eq_of_lt h, Nat.zero_add, ← h1]
    · rw [show i + 1 = i % q + 1 + q * (i / q) by omega, Nat.add_mul_mod_self_left, Nat.mod_eq_of_lt h]
  · have e : i + 1 = (i / q + 1) * q := by rw [Nat.succ_mul, Nat.mul_comm]; omega
    exact .inr ⟨by omega, by rw [e, Nat.mul_mod_left], e⟩
/-- the count so far in the stripe of chunk i -/
structure Cnt (k m ch q : Nat) (y : List UInt8) (i inn : Nat) : Prop where
  now : i % q = 0 ∨ inn + (Rsp.gd (goodL (csAt k m ch y (i / q))) (i % q)).length = i % q
theorem Cnt.start : Cnt k m ch q y 0 0 := ⟨.inl (Nat.zero_mod _)⟩
/-- the count at the chunk's begin: taken back at a stripe's begin -/
def inAt (q i inn : Nat) : Nat := if i % q = 0 then 0 else inn
theorem Cnt.at_ (h : Cnt k m ch q y i inn) : inAt q i inn + (Rsp.gd (goodL (csAt k m ch y (i / q))) (i % q)).length = i % q := by
  unfold inAt
  rcases h.now with h1 | h1
  · rw [if_pos h1, h1]; rfl
  · split
    · next h2 => rw [h2]; rfl
    · exact h1
theorem Cnt.good (h : Cnt k m ch q y i inn) (hq : k + m = q) (h0 : 0 < q) (hg : goodB (chunkB y (ch + 4) i) = true) : Cnt k m ch q y (i + 1) (inAt q i inn) := by
  have h1 := h.at_
  have h2 := gd_at (ch := ch) (y := y) (i := i) hq h0
  rw [if_pos hg] at h2
  rcases next_at (i := i) h0 with ⟨a, b, c⟩ | ⟨a, b, c⟩
  · exact ⟨.inr (by rw [b, c, h2]; omega)⟩
  · exact ⟨.inl b⟩
theorem Cnt.bad (h : Cnt k m ch q y i inn) (hq : k + m = q) (h0 : 0 < q) (hg : goodB (chunkB y (ch + 4) i) = false) : Cnt k m ch q y (i + 1) (inAt q i inn + 1) := by
  have h1 := h.at_
  have h2 := gd_at (ch := ch) (y := y) (i := i) hq h0
  rw [hg, if_neg (by decide)] at h2
  rcases next_at (i := i) h0 with ⟨a, b, c⟩ | ⟨a, b, c⟩
  · exact ⟨.inr (by rw [b, c, h2]; omega)⟩
  · exact ⟨.inl b⟩
/-- chunks before i are the same or known to be spoilt, at most m of each whole stripe -/
structure Mst (k m ch q : Nat) (x y : List UInt8) (i inn : Nat) : Prop where
  cnt : Cnt k m ch q y i inn
  inm : inn ≤ m
  same : ∀ j, j < i → goodB (chunkB y (ch + 4) j) = true → chunkB y (ch + 4) j = chunkB x (ch + 4) j
  few : ∀ t, (t + 1) * q ≤ i → k ≤ (Rsp.gd (goodL (csAt k m ch y t)) q).length
theorem Mst.start (h0 : 0 < q) : Mst k m ch q x y 0 0 := ⟨Cnt.start, Nat.zero_le _, fun j hj => by omega, fun t ht => by rw [Nat.succ_mul] at ht; omega⟩
theorem Mst.next {inn' : Nat} (h : Mst k m ch q x y i inn) (hq : k + m = q) (h0 : 0 < q) (hc : Cnt k m ch q y (i + 1) inn') (hi : inn' ≤ m) (hs : goodB (chunkB y (ch + 4) i) = true → chunkB y (ch + 4) i = chunkB x (ch + 4) i) (he : inAt q i inn + (if goodB (chunkB y (ch + 4) i) = true then 0 else 1) = inn') : Mst k m ch q x y (i + 1) inn' := by
  refine ⟨hc, hi, fun j hj hg => ?_, fun t ht => ?_⟩
  · by_cases e : j < i
    · exact h.same j e hg
    · obtain rfl : j = i := by omega
      exact hs hg
  · by_cases e : (t + 1) * q ≤ i
    · exact h.few t e
    · have e2 : (t + 1) * q = i + 1 := by omega
      have h1 := h.cnt.at_
      have h2 := gd_at (ch := ch) (y := y) (i := i) hq h0
      rcases next_at (i := i) h0 with ⟨a, b, c⟩ | ⟨a, b, c⟩
      · have : (i + 1) % q = 0 := by rw [← e2, Nat.mul_mod_left]
        omega
      · have ht2 : t = i / q := by
          have : (t + 1) * q = (i / q + 1) * q := by omega
          have := Nat.eq_of_mul_eq_mul_right h0 this
          omega
        subst ht2
        rw [a] at h2
        rw [h2]
        split at he <;> rename_i hb
        · rw [if_pos hb]; omega
        · rw [if_neg hb]; omega
theorem Mst.good (h : Mst k m ch q x y i inn) (hq : k + m = q) (h0 : 0 < q) (hg : goodB (chunkB x (ch + 4) i) = true) (hs : chunkB x (ch + 4) i = chunkB y (ch + 4) i) : Mst k m ch q x y (i + 1) (inAt q i inn) := by
  have hgy : goodB (chunkB y (ch + 4) i) = true := by rw [← hs]; exact hg
  exact h.next hq h0 (h.cnt.good hq h0 hgy) (by unfold inAt; split <;> have := h.inm <;> omega) (fun _ => hs.symm) (by rw [if_pos hgy]; rfl)
theorem Mst.bad (h : Mst k m ch q x y i inn) (hq : k + m = q) (h0 : 0 < q) (hg : goodB (chunkB y (ch + 4) i) = false) (hi : inAt q i inn + 1 ≤ m) : Mst k m ch q x y (i + 1) (inAt q i inn + 1) :=
  h.next hq h0 (h.cnt.bad hq h0 hg) hi (fun e => by rw [hg] at e; cases e) (by rw [hg]; rfl)
theorem Mst.hurt {S : Nat} (h : Mst k m ch q x y (S * q) inn) (hq : k + m = q) : Hurt k m ch S x y := by
  subst hq
  exact ⟨h.same, fun t ht => h.few t (Nat.mul_le_mul_right _ ht)⟩
end
/-- what was laid out is good -/
theorem lay_good {k m ch n S d L N T : Nat} {b : List UInt8} (sh : Shp k m ch n S d L N T) (hb : b.length = n) (i : Nat) (hi : i < S * (k + m)) : goodB (chunkB (layV k m ch b) (ch + 4) i) = true := by
  have h := (hurt_none sh hb).2
  unfold badTo at h
  rw [List.filter_eq_nil_iff] at h
  have := h i (List.mem_range.2 hi)
  simpa using this
end Stp
end Go.Proofs.YtjbedcgacnnanaaDoor
