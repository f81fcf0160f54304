/-
  The place of a number: both walked; the law SetsMay.
-/
import Derived.Test.YtpgnaahfkcgflaaSetl
namespace Go.Proofs.Ytpgnaahfkcgflaa
set_option linter.unusedSimpArgs false
set_option linter.unusedVariables false
open Go.RowKit

/-- the place of the first number that isn't below x -/
def nextP (xs : List Int) (x : Int) : Nat := if Setp.may xs = true ∧ Setp.low x xs < xs.length then Setp.low x xs else 0
def nextB (xs : List Int) (x : Int) : Bool := Setp.may xs && decide (Setp.low x xs < xs.length)
theorem ret_nb {a b : Nat} {c d : Bool} (h : a = b) (h2 : c = d) : Ending.returned (.tuple #[.int .i64 (a : Nat), .bool c]) = .returned (.tuple #[.int .i64 (b : Nat), .bool d]) := by rw [h, h2]

theorem info_walk : (Try.prog.info? 48).map (fun i => (i.zero, i.size)) = some (some (.agg #[.slice none 0 0, .int .i64 0]), 2) := by kernel_rfl
set_option maxRecDepth 100000 in
set_option maxHeartbeats 1000000 in
theorem next_any (A : Option Addr) (n c : Nat) (xs : List Int) (x : Int) (w : World) (h : Reads w w.heap.size 1 A n (xs.map I64)) (hnc : n ≤ c) (hn : n < 4294967296) :
    Calls Try.prog 15 #[.slice A n c, .int .i64 x] w fun e w' => e = .returned (.tuple #[.int .i64 (nextP xs x : Nat), .bool (nextB xs x)]) ∧ Below w.heap.size w w' := by
  have hl : xs.length = n := by have := h.1; simpa using this
  have hz := (zero_of_info info_walk).1
  have M := Lib.hid (may_any A n c w.heap.size xs w h hn)
  cases hm : Setp.may xs
  · have hv : Hid (nextP xs x = 0 ∧ nextB xs x = false) := by unfold nextP nextB; rw [hm]; exact ⟨if_neg (by simp), rfl⟩
    rw [hm] at M
    clear hm h hl
    go_enter Try.func15, Try.ntmps15
    go_wp2_with fail
    refine M.out.mono ?_; rintro e w1 ⟨rfl, rfl⟩
    go_wp2_with fail
    go_ret2
    exact ⟨ret_nb hv.out.1.symm hv.out.2.symm, Below.refl _ _⟩
  · have SK := Lib.hid (seek_any w.heap.size 48 A n c 0 w.heap.size xs x (w.alloc (.cells #[.slice A n c, .int .i64 0] 48)) (Blk.new w _ _) (h.alloc (Nat.le_refl _) _) (Nat.le_refl _) (Setp.may_rising hm) (fun j _ hj => by omega) (by omega) hnc hn)
    have HB0 : Hid (Below w.heap.size w (w.alloc (.cells #[.slice A n c, .int .i64 0] 48))) := (Below.refl _ _).alloc (Nat.le_refl _) _
    have HV : Hid (nextP xs x = (if Setp.low x xs < n then Setp.low x xs else 0) ∧ nextB xs x = decide (Setp.low x xs < n)) := by
      rw [Hid]; unfold nextP nextB; rw [hm, hl]; simp
    rw [hm] at M
    obtain ⟨mm, Hmm⟩ : ∃ mm, Hid (Setp.low x xs = mm) := ⟨_, rfl⟩
    rw [Hmm.out] at SK HV
    clear hm h hl
    go_enter Try.func15, Try.ntmps15
    go_wp2_with fail
    refine M.out.mono ?_; rintro e w1 ⟨rfl, rfl⟩
    go_wp2_with fail
    refine SK.out.mono ?_; rintro e w2 ⟨rfl, hT, hb⟩
    have HB2 := Lib.hid (hT.below HB0.out (Nat.le_refl _))
    have OV := Lib.hid (over_any w.heap.size _ A n c mm w2 hb)
    have g1 : w2.cell? ⟨w.heap.size, 1, none⟩ = some (.int .i64 (mm : Nat)) := hb.cell 1
    clear hT hb SK
    go_wp2_with fail
    refine OV.out.mono ?_; rintro e w3 ⟨rfl, rfl⟩
    by_cases hlt : mm < n
    · have hd : decide ((n : Int) ≤ (mm : Int)) = false := by simpa using hlt
      have hv : Hid (nextP xs x = mm ∧ nextB xs x = true) := by rw [HV.out.1, HV.out.2, if_pos hlt]; exact ⟨rfl, by simpa using hlt⟩
      rw [hd]
      clear hlt hd
      go_wp2_with fail
      go_ret2
      exact ⟨ret_nb hv.out.1.symm hv.out.2.symm, HB2.out.drew⟩
    · have hd : decide ((n : Int) ≤ (mm : Int)) = true := by simpa using hlt
      have hv : Hid (nextP xs x = 0 ∧ nextB xs x = false) := by rw [HV.out.1, HV.out.2, if_neg hlt]; exact ⟨rfl, by simpa using hlt⟩
      rw [hd]
      clear hlt hd
      go_wp2_with fail
      go_ret2
      exact ⟨ret_nb hv.out.1.symm hv.out.2.symm, HB2.out.drew⟩
set_option maxRecDepth 100000 in
set_option maxHeartbeats 1000000 in
theorem refNext_any (A : Option Addr) (n c B : Nat) (xs : List Int) (x : Int) (w : World) (h : Reads w B 1 A n (xs.map I64)) (hn : n < 4294967296) :
    Calls Try.prog 16 #[.slice A n c, .int .i64 x] w fun e w' => e = .returned (.tuple #[.int .i64 (nextP xs x : Nat), .bool (nextB xs x)]) ∧ Dr w w' := by
  have hl : xs.length = n := by have := h.1; simpa using this
  have M := Lib.hid (refMay_any A n c B xs w h hn)
  cases hm : Setp.may xs
  · have hv : Hid (nextP xs x = 0 ∧ nextB xs x = false) := by unfold nextP nextB; rw [hm]; exact ⟨if_neg (by simp), rfl⟩
    rw [hm] at M
    clear hm h hl
    go_enter Try.func16, Try.ntmps16
    go_wp2_with fail
    refine M.out.mono ?_; rintro e w1 ⟨rfl, hD⟩
    replace hD := Lib.hid hD
    go_wp2_with fail
    go_ret2
    exact ⟨ret_nb hv.out.1.symm hv.out.2.symm, hD.out⟩
  · have HV : Hid (nextP xs x = (if Setp.low x xs < n then Setp.low x xs else 0) ∧ nextB xs x = decide (Setp.low x xs < n)) := by
      rw [Hid]; unfold nextP nextB; rw [hm, hl]; simp
    have LU := Lib.hid (fun i hi h1 h2 => Setp.low_unique x xs i hi h1 h2)
    have H := Lib.hid h
    have L := Lib.hid hl
    rw [hm] at M
    clear hm h hl
    go_enter Try.func16, Try.ntmps16
    go_wp2_with fail
    refine M.out.mono ?_; rintro e w1 ⟨rfl, hD⟩
    replace hD := Lib.hid hD
    go_wp2_with fail
    go_loop [6] (fun v6 => ∃ k : Nat, v6 = .int .i64 k ∧ k ≤ n ∧ Hid (∀ j (h : j < xs.length), j < k → xs[j] < x)) (fun v6 => n - (intOf v6).toNat)
    case atStart => exact ⟨0, rfl, by omega, fun j _ h => by omega⟩
    case round =>
      obtain ⟨k, rfl, hk, Hlow⟩ := hrel
      by_cases hlt : k < n
      · have hlt' : (k : Int) < n := by omega
        obtain ⟨ad, rfl, hcell⟩ := ints_cells (hD.out.reads H.out) (by omega)
        have hkx : k < xs.length := by rw [L.out]; exact hlt
        have c1 := hcell k hkx
        have Hge : Hid (x ≤ xs[k] → k = Setp.low x xs) := fun hx => LU.out k (by omega) Hlow.out (fun _ => hx)
        have Hlt : Hid (xs[k] < x → ∀ j (h : j < xs.length), j < k + 1 → xs[j] < x) := fun hx j hj hjk => by
          by_cases e : j = k
          · subst e; exact hx
          · exact Hlow.out j hj (by omega)
        clear hcell
        generalize xs[k] = y at *
        by_cases hy : x ≤ y
        · have he := Lib.hid (Hge.out hy)
          have hv : Hid (nextP xs x = k ∧ nextB xs x = true) := by rw [HV.out.1, HV.out.2, ← he.out, if_pos hlt]; exact ⟨rfl, by simpa using hlt⟩
          go_wp2_with fail
          go_ret2
          exact ⟨ret_nb hv.out.1.symm hv.out.2.symm, hD.out⟩
        · have hy' : y < x := by omega
          have he := Lib.hid (Hlt.out hy')
          go_wp2_with fail
          go_round
          case rel => exact ⟨k + 1, by go_num, by omega, he⟩
          case measure => simp [intOf]; omega
      · have hge : (n : Int) ≤ k := by omega
        have he : Hid (k = Setp.low x xs) := LU.out k (by rw [L.out]; omega) Hlow.out (fun h => by rw [L.out] at h; omega)
        have hv : Hid (nextP xs x = 0 ∧ nextB xs x = false) := by rw [HV.out.1, HV.out.2, ← he.out, if_neg hlt]; exact ⟨rfl, by simpa using hlt⟩
        go_wp2_with fail
        go_ret2
        exact ⟨ret_nb hv.out.1.symm hv.out.2.symm, hD.out⟩

set_option maxRecDepth 100000 in
set_option maxHeartbeats 1000000 in
theorem setsMay_walk (A : Option Addr) (n c : Nat) (xs : List Int) (x : Int) (w : World) (hnc : n ≤ c) (_m : c ≤ maxLen) (h0 : Reads w w.heap.size 1 A n (xs.map I64) ∧ ∀ x ∈ xs, (Lit.int .i64 x).wf = true) (_hx : (Lit.int .i64 x).wf = true) :
    Calls Try.prog 4 #[.slice A n c, .int .i64 x] w fun e w' => e = .returned (.bool true) ∧ Below w.heap.size w w' := by
  have h := h0.1
  have H := Lib.hid (fun W (hW : Below w.heap.size w W) => (h.below hW).more hW.size)
  clear h0 h _m _hx
  by_cases hn : 1000 < n
  · have hn' : (1000 : Int) < n := by omega
    go_enter Try.func4, Try.ntmps4
    go_wp2_with fail
    refine (alive_any _).mono ?_; rintro e w1 ⟨rfl, hB1⟩
    replace hB1 := Lib.hid hB1
    go_wp2_with fail
    go_ret
    exact ⟨rfl, hB1.out⟩
  · have hn' : (n : Int) ≤ 1000 := by omega
    have N1 := Lib.hid (fun W hW => next_any A n c xs x W hW hnc (by omega))
    have N2 := Lib.hid (fun W hW => refNext_any A n c W.heap.size xs x W hW (by omega))
    have M1 := Lib.hid (fun W hW => may_any A n c W.heap.size xs W hW (by omega))
    have M2 := Lib.hid (fun W hW => refMay_any A n c W.heap.size xs W hW (by omega))
    generalize nextP xs x = np at *
    generalize nextB xs x = nb at *
    generalize Setp.may xs = mb at *
    go_enter Try.func4, Try.ntmps4
    go_wp2_with fail
    refine (alive_any _).mono ?_; rintro e w1 ⟨rfl, hB1⟩
    replace hB1 := Lib.hid hB1
    go_wp2_with fail
    refine (N1.out _ (H.out _ hB1.out)).mono ?_; rintro e w2 ⟨rfl, hB2⟩
    have HB2 := Lib.hid (below_thenI hB1.out hB2)
    clear hB2
    go_wp2_with fail
    refine (N2.out _ (H.out _ HB2.out)).mono ?_; rintro e w3 ⟨rfl, hD3⟩
    have HB3 := Lib.hid (below_thenI HB2.out (hD3.below _))
    clear hD3
    go_wp2_with fail
    refine (M1.out _ (H.out _ HB3.out)).mono ?_; rintro e w4 ⟨rfl, rfl⟩
    go_wp2_with fail
    refine (M2.out _ (H.out _ HB3.out)).mono ?_; rintro e w5 ⟨rfl, hD5⟩
    have HB5 := Lib.hid (below_thenI HB3.out (hD5.below _))
    clear hD5
    go_wp2_with fail
    go_ret
    exact ⟨rfl, HB5.out⟩
end Go.Proofs.Ytpgnaahfkcgflaa
