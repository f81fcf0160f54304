/-
  Walks of comparing, of searching a rising list, and of whether a list is a set.
-/
import Derived.Test.YtpgnaahfkcgflaaChecked
import Derived.Test.YtpgnaahfkcgflaaSetp
import Derived.Test.YtpgnaahfkcgflaaMem
import Derived.Test.YtpgnaahfkcgflaaApp
import Derived.Test.YtpgnaahfkcgflaaAr
import Derived.Lib.Hide
import Derived.Deep.QuietTactic
import Derived.BigQuiet
namespace Go.Proofs.Ytpgnaahfkcgflaa
set_option linter.unusedSimpArgs false
set_option linter.unusedVariables false
open Go.RowKit

theorem nan1_any (a : Int) (w : World) : Calls Try.prog 43 #[.int .i64 a] w fun e w' => e = .returned (.bool false) ∧ w = w' := by
  go_enter Try.func43, Try.ntmps43
  go_wp2_with fail
  go_ret
  exact ⟨ret_bool (by simp), rfl⟩
theorem nan2_any (a : Int) (w : World) : Calls Try.prog 42 #[.int .i64 a] w fun e w' => e = .returned (.bool false) ∧ w = w' := by
  go_enter Try.func42, Try.ntmps42
  go_wp2_with fail
  go_ret
  exact ⟨ret_bool (by simp), rfl⟩
theorem less_any (a b : Int) (w : World) : Calls Try.prog 41 #[.int .i64 a, .int .i64 b] w fun e w' => e = .returned (.bool (decide (a < b))) ∧ w = w' := by
  have N := fun w => Lib.hid (nan1_any a w)
  go_enter Try.func41, Try.ntmps41
  go_wp2_with fail
  refine (N _).out.mono ?_; rintro e w' ⟨rfl, rfl⟩
  go_wp2_with fail
  go_ret
  exact ⟨rfl, rfl⟩
theorem ints_cells {w : World} {B n : Nat} {A : Option Addr} {xs : List Int} (h : Reads w B 1 A n (xs.map I64)) (hn : 0 < n) : ∃ ad, A = some ad ∧ ∀ j (hj : j < xs.length), w.cell? (ad.add j) = some (.int .i64 xs[j]) := by
  obtain ⟨ad, hA, _, hc⟩ := h.2 hn
  exact ⟨ad, hA, fun j hj => hc j (I64 xs[j]) (by rw [List.getElem?_map, List.getElem?_eq_getElem hj]; rfl)⟩

theorem ret_ib {k : IntKind} {a b : Int} {c d : Bool} (h : a = b) (h2 : c = d) : Ending.returned (.tuple #[.int k a, .bool c]) = .returned (.tuple #[.int k b, .bool d]) := by rw [h, h2]
set_option maxRecDepth 100000 in
set_option maxHeartbeats 1000000 in
theorem binary_any (A : Option Addr) (n c B : Nat) (xs : List Int) (x : Int) (w : World) (h : Reads w B 1 A n (xs.map I64)) (hs : ∀ i j (hj : j < xs.length) (hij : i < j), xs[i] < xs[j]) (hn : n < 4294967296) :
    Calls Try.prog 38 #[.slice A n c, .int .i64 x] w fun e w' => e = .returned (.tuple #[.int .i64 (Setp.low x xs), .bool (decide (xs[Setp.low x xs]? = some x))]) ∧ w = w' := by
  have hl : xs.length = n := by have := h.1; simpa using this
  have H := Lib.hid h
  have L := Lib.hid hl
  have S := Lib.hid hs
  have N := fun w => Lib.hid (nan2_any x w)
  clear h hs hl
  go_enter Try.func38, Try.ntmps38
  go_wp2_with fail
  go_loop [7, 8] (fun v7 v8 => ∃ i j : Nat, v7 = .int .i64 i ∧ v8 = .int .i64 j ∧ i ≤ j ∧ j ≤ n ∧ Hid (∀ k (h : k < xs.length), k < i → xs[k] < x) ∧ Hid (∀ h : j < xs.length, x ≤ xs[j])) (fun v7 v8 => (intOf v8 - intOf v7).toNat)
  case atStart => exact ⟨0, n, rfl, rfl, by omega, by omega, fun k h hk => absurd hk (by omega), fun h => absurd h (by rw [L.out]; omega)⟩
  case round =>
    obtain ⟨i, j, rfl, rfl, hij, hjn, Hlo, Hhi⟩ := hrel
    by_cases hlt : i < j
    · have hlt' : (i : Int) < j := by omega
      obtain ⟨m, hm⟩ : ∃ m, m = (i + j) / 2 := ⟨_, rfl⟩
      have hmi : i ≤ m ∧ m < j := by omega
      have hh : ((i : Int) + (j : Int)) / 2 = (m : Int) := by omega
      obtain ⟨ad, rfl, hcell⟩ := ints_cells H.out (by omega)
      have hmx : m < xs.length := by rw [L.out]; omega
      have c1 := hcell m hmx
      have l1 : (m : Int) < n := by omega
      have Hr := S.out
      have hm1 := hmi.1
      have hm2 := hmi.2
      clear hcell hm
      by_cases hx : xs[m] < x
      · have hd : decide (xs[m] < x) = true := by simpa using hx
        have LS := fun W => Lib.hid (less_any xs[m] x W)
        rw [hd] at LS
        have Hlo2 : Hid (∀ k (h : k < xs.length), k < m + 1 → xs[k] < x) := fun k h hk => by
          rcases Nat.lt_or_ge k m with h1 | h1
          · have := Hr k m hmx h1; omega
          · have hkm : k = m := by omega
            subst hkm; exact hx
        clear hd hx Hr
        generalize xs[m] = y at *
        go_wp2_with fail
        refine (LS _).out.mono ?_; rintro e w' ⟨rfl, rfl⟩
        go_wp2_with fail
        go_round
        case rel => exact ⟨m + 1, j, by go_num, rfl, by omega, hjn, Hlo2, Hhi⟩
        case measure => simp [intOf]; omega
      · have hd : decide (xs[m] < x) = false := by simpa using hx
        have LS := fun W => Lib.hid (less_any xs[m] x W)
        rw [hd] at LS
        have Hhi2 : Hid (∀ h : m < xs.length, x ≤ xs[m]) := fun h => by omega
        clear hd hx Hr
        generalize xs[m] = y at *
        go_wp2_with fail
        refine (LS _).out.mono ?_; rintro e w' ⟨rfl, rfl⟩
        go_wp2_with fail
        go_round
        case rel => exact ⟨i, m, rfl, by go_num, by omega, by omega, Hlo, Hhi2⟩
        case measure => simp [intOf]; omega
    · have hij2 : i = j := by omega
      subst hij2
      have He : Hid (i = Setp.low x xs) := Setp.low_unique x xs i (by rw [L.out]; omega) Hlo.out Hhi.out
      by_cases hin : i < n
      · have hin' : (i : Int) < n := by omega
        obtain ⟨ad, rfl, hcell⟩ := ints_cells H.out (by omega)
        have hix : i < xs.length := by rw [L.out]; exact hin
        have c1 := hcell i hix
        have Hx : Hid (xs[Setp.low x xs]? = some xs[i]) := by rw [← He.out, List.getElem?_eq_getElem hix]; rfl
        clear hcell
        generalize xs[i] = y at *
        by_cases hy : y = x
        · have Hok : Hid (decide (xs[Setp.low x xs]? = some x) = true) := by rw [Hx.out, hy]; simp [Hid]
          subst hy
          go_wp2_with fail
          go_ret2
          exact ⟨ret_ib (by rw [He.out]) Hok.out.symm, rfl⟩
        · have hne : ((y : Int) == x) = false := by rw [beq_eq_false_iff_ne]; exact hy
          have Hok : Hid (decide (xs[Setp.low x xs]? = some x) = false) := by rw [Hx.out]; simp [Hid, hy]
          have N2 := fun w => Lib.hid (nan2_any y w)
          go_wp2_with fail
          refine (N2 _).out.mono ?_; rintro e w' ⟨rfl, rfl⟩
          go_wp2_with fail
          go_ret2
          exact ⟨ret_ib (by rw [He.out]) Hok.out.symm, rfl⟩
      · have hin' : (n : Int) ≤ i := by omega
        have Hok : Hid (decide (xs[Setp.low x xs]? = some x) = false) := by rw [← He.out, List.getElem?_eq_none (by rw [L.out]; omega)]; simp [Hid]
        go_wp2_with fail
        go_ret2
        exact ⟨ret_ib (by rw [He.out]) Hok.out.symm, rfl⟩

set_option maxRecDepth 100000 in
theorem may_any (A : Option Addr) (n c B : Nat) (xs : List Int) (w : World) (h : Reads w B 1 A n (xs.map I64)) (hn : n < 4294967296) :
    Calls Try.prog 17 #[.slice A n c] w fun e w' => e = .returned (.bool (Setp.may xs)) ∧ w = w' := by
  have hl : xs.length = n := by have := h.1; simpa using this
  have H := Lib.hid h
  have L := Lib.hid hl
  clear h hl
  go_enter Try.func17, Try.ntmps17
  go_wp2_with fail
  go_loop [3, 8] (fun v3 v8 => ∃ (k : Nat) (was : Int), v3 = .int .i64 was ∧ v8 = .int .i64 k ∧ k ≤ n ∧ Hid (Setp.mayGo was (xs.drop k) = Setp.may xs)) (fun _ v8 => n - (intOf v8).toNat)
  case atStart => exact ⟨0, -1, rfl, rfl, by omega, rfl⟩
  case round =>
    obtain ⟨k, was, rfl, rfl, hk, Hg⟩ := hrel
    by_cases hlt : k < n
    · have hlt' : (k : Int) < n := by omega
      obtain ⟨ad, rfl, hcell⟩ := ints_cells H.out (by omega)
      have hkx : k < xs.length := by rw [L.out]; exact hlt
      have c1 := hcell k hkx
      have Hg2 : Hid ((decide (was < xs[k]) && Setp.mayGo xs[k] (xs.drop (k + 1))) = Setp.may xs) := by
        rw [← Hg.out, List.drop_eq_getElem_cons hkx]; rfl
      clear hcell Hg
      generalize xs[k] = y at *
      by_cases hy : was < y
      · have Hg3 : Hid (Setp.mayGo y (xs.drop (k + 1)) = Setp.may xs) := by rw [← Hg2.out]; simp [hy, Hid]
        go_wp2_with fail
        go_round
        case rel => exact ⟨k + 1, y, rfl, by go_num, by omega, Hg3⟩
        case measure => simp [intOf]; omega
      · have hy' : y ≤ was := by omega
        have Hg3 : Hid (Setp.may xs = false) := by rw [← Hg2.out]; simp [hy, Hid]
        go_wp2_with fail
        go_ret
        exact ⟨ret_bool (by rw [Hg3.out]), rfl⟩
    · have hkn : k = n := by omega
      have Hg3 : Hid (Setp.may xs = true) := by
        rw [← Hg.out, List.drop_of_length_le (by rw [L.out]; omega)]; rfl
      have hge : (n : Int) ≤ k := by omega
      go_wp2_with fail
      go_ret
      exact ⟨ret_bool (by rw [Hg3.out]), rfl⟩
end Go.Proofs.Ytpgnaahfkcgflaa
