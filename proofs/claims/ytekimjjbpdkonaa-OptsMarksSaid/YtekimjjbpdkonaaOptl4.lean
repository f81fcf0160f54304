/-
  The mark that is made, and the walk of the law OptsMarks.
-/
import Derived.Test.YtekimjjbpdkonaaOptm
import Derived.ArgAppend
import Derived.Lib.SlBytesConst
namespace Go.Proofs.Ytekimjjbpdkonaa
open Go.RowKit
set_option linter.unusedSimpArgs false

/-- the mark of a version -/
def mark (n : Nat) : List UInt8 := [70, 73, 82, 75, UInt8.ofNat n]
theorem mark_reads (n : Nat) (h1 : 1 ≤ n) (h3 : n ≤ 3) : Optp.mkV (mark n) = n ∧ Optp.mkE (mark n) = 0 := by
  have hn : n = 1 ∨ n = 2 ∨ n = 3 := by omega
  rcases hn with rfl | rfl | rfl <;> exact ⟨by decide, by decide⟩

set_option maxRecDepth 100000 in
theorem mark_out (v : Int) (w : World) (hv : Optp.wi v 1 3 = false) :
    Calls Try.prog 17 #[.int .i64 v] w fun e w' => e = .returned (.tuple #[.slice none 0 0, .int .i64 4]) ∧ w = w' := by
  have H := within_any v 1 3
  rw [hv] at H
  replace H := fun w => Lib.hid (H w)
  go_enter Try.func17, Try.ntmps17
  go_wp2_with fail
  refine (H _).out.mono ?_; rintro e w' ⟨rfl, rfl⟩
  go_wp2_with fail
  go_ret2
  exact ⟨rfl, rfl⟩

theorem own_less {w : World} {base base' : Nat} {e : TypeId} {size : Nat} {v : Value} {n : Nat} {xs : List Value} (h : w.ownsRow base e size v n xs) (hb : base' ≤ base) : w.ownsRow base' e size v n xs :=
  ⟨h.1, h.2.imp id fun ⟨g, cap, cur, hv, hg, r⟩ => ⟨g, cap, cur, hv, Nat.le_trans hb hg, r⟩⟩
theorem two_cells (w : World) (t : TypeId) (cs ds : List Value) (fr : Nat × Nat) :
    (∀ j u, cs[j]? = some u → ((w.alloc (.cells cs.toArray t fr)).alloc (.cells ds.toArray t)).cell? ((⟨w.heap.size, 0, none⟩ : Addr).add j) = some u) ∧
    (∀ j u, ds[j]? = some u → ((w.alloc (.cells cs.toArray t fr)).alloc (.cells ds.toArray t)).cell? ((⟨w.heap.size + 1, 0, none⟩ : Addr).add j) = some u) := by
  have e : ∀ (b j : Nat), (⟨b, 0, none⟩ : Addr).add j = ⟨b, j, none⟩ := fun b j => by unfold Addr.add; split <;> simp_all
  refine ⟨fun j u hu => ?_, fun j u hu => ?_⟩
  · rw [e, cell_of_row _ _ _ cs.toArray t fr ((heap_alloc_old (w.alloc (.cells cs.toArray t fr)) (.cells ds.toArray t) (by simp)).trans (heap_alloc_new w _))]
    simpa using hu
  · rw [e, cell_of_row _ _ _ ds.toArray t (0, 0) (by have h := heap_alloc_new (w.alloc (.cells cs.toArray t fr)) (.cells ds.toArray t); simpa using h)]
    simpa using hu

set_option maxRecDepth 100000 in
theorem mark_in (n : Nat) (w : World) (h1 : 1 ≤ n) (h3 : n ≤ 3) :
    Calls Try.prog 17 #[.int .i64 n] w fun e w' => ∃ A c, e = .returned (.tuple #[.slice A 5 c, .int .i64 0]) ∧ w'.ownsRow w.heap.size 5 1 (.slice A 5 c) 5 ((mark n).map B8) ∧ Below w.heap.size w w' := by
  have H := within_any n 1 3
  rw [show Optp.wi (n : Int) 1 3 = true by unfold Optp.wi; simp; omega] at H
  replace H := fun w => Lib.hid (H w)
  have kc := fun (w : World) (C : Array Value) (n c : Nat) => Lib.run_convert_bytes_const (P := Try.prog) w 33 5 C n c Try.underlying33 Try.underlying5
  obtain ⟨i0, hi, hz0, hz1, hz2⟩ := info_parts info_b
  replace hi := Lib.hid hi; replace hz0 := Lib.hid hz0; replace hz1 := Lib.hid hz1; replace hz2 := Lib.hid hz2
  have K := Lib.hid (two_cells w 5 [.int .u8 70, .int .u8 73, .int .u8 82, .int .u8 75] [.int .u8 (n : Int)] (4, 5))
  have hB : Below w.heap.size w ((w.alloc (.cells [.int .u8 70, .int .u8 73, .int .u8 82, .int .u8 75].toArray 5 (4, 5))).alloc (.cells [.int .u8 (n : Int)].toArray 5)) := ((Below.refl _ _).alloc (Nat.le_refl _) _).alloc (by simp) _
  replace hB := Lib.hid hB
  have hn' : (n : Int) % 256 = n := by omega
  go_enter Try.func17, Try.ntmps17
  go_wp2_with fail
  refine (H _).out.mono ?_; rintro e w' ⟨rfl, hw⟩; replace hw := hw.symm; subst hw
  go_wp2_with (at_builtin; refine wpList_append_grows _ rfl (.tmp 8) (.tmp 11) 33 rfl 5 i0 (.int .u8 0) 1 1 Try.underlying33 hi.out hz0.out hz1.out hz2.out rfl (by omega) (some ⟨w.heap.size, 0, none⟩) 4 4 [.int .u8 70, .int .u8 73, .int .u8 82, .int .u8 75] rfl (fun h => by cases h) rfl (fun b hb => by cases hb; exact K.out.1) ⟨w.heap.size + 1, 0, none⟩ 1 1 [.int .u8 (n : Int)] rfl rfl K.out.2 (one_one rfl) (by omega) (by unfold maxLen; omega) (by omega) ?_; intro v' w2 ho2 hg2; obtain ⟨A1, c1, rfl⟩ := own_slice_n ho2)
  go_ret2
  refine ⟨A1, c1, rfl, ?_, ?_⟩
  · have hm : (mark n).map B8 = [.int .u8 70, .int .u8 73, .int .u8 82, .int .u8 75] ++ [.int .u8 (n : Int)] := by
      have hn : n = 1 ∨ n = 2 ∨ n = 3 := by omega
      rcases hn with rfl | rfl | rfl <;> rfl
    rw [hm]
    exact own_less ho2 (by simp; omega)
  · exact hB.out.grown hg2 (by simp; omega) (fun k hk => by cases hk)

set_option maxRecDepth 100000 in
set_option maxHeartbeats 1000000 in
theorem optsMarks_walk (v : Int) (A : Option Addr) (n c : Nat) (bs : List UInt8) (w : World) (l1 : n ≤ c) (m1 : c ≤ maxLen) (h1 : Reads w w.heap.size 1 A n (bs.map B8)) :
    Calls Try.prog 7 #[.int .i64 v, .slice A n c] w fun e w' => e = .returned (.bool true) ∧ Below w.heap.size w w' := by
  have C1 : Hid (∀ W, Below w.heap.size w W → Calls Try.prog 15 #[.slice A n c] W fun e w' => e = .returned (.tuple #[.int .i64 (Optp.mkV bs), .int .i64 (Optp.mkE bs)]) ∧ W = w') := fun W hW => marked_any A n c w.heap.size bs W l1 m1 (h1.below hW)
  have C2 : Hid (∀ W, Below w.heap.size w W → Calls Try.prog 16 #[.slice A n c] W fun e w' => e = .returned (.tuple #[.int .i64 (Optp.mkV bs), .int .i64 (Optp.mkE bs)]) ∧ W = w') := fun W hW => refMarked_any A n c w.heap.size bs W (h1.below hW)
  clear h1 l1 m1
  generalize Optp.mkV bs = V at *
  generalize Optp.mkE bs = E at *
  by_cases hv : Optp.wi v 1 3 = true
  · obtain ⟨k, rfl, k1, k3⟩ : ∃ n : Nat, v = (n : Int) ∧ 1 ≤ n ∧ n ≤ 3 := by
      unfold Optp.wi at hv; simp at hv; exact ⟨v.toNat, by omega, by omega, by omega⟩
    have G1 := fun W => Lib.hid (mark_in k W k1 k3)
    have hr := Lib.hid (mark_reads k k1 k3)
    have i1 : (1 : Int) ≤ (k : Int) := by omega
    have i3 : (k : Int) ≤ 3 := by omega
    clear hv k1 k3
    go_enter Try.func7, Try.ntmps7
    go_wp2_with fail
    refine (alive_any _).mono ?_; rintro e w1 ⟨rfl, hB1⟩
    replace hB1 := Lib.hid hB1
    go_wp2_with fail
    refine (C1.out _ hB1.out).mono ?_; rintro e w' ⟨rfl, rfl⟩
    go_wp2_with fail
    refine (C2.out _ hB1.out).mono ?_; rintro e w' ⟨rfl, rfl⟩
    go_wp2_with fail
    refine (G1 _).out.mono ?_; rintro e w2 ⟨A2, c2, rfl, ho2, hB2⟩
    have hS2 := Lib.hid (below_after hB1.out hB2)
    have hc := own_cap ho2
    have C3 := Lib.hid (marked_any A2 5 c2 _ (mark k) w2 hc.1 hc.2 (Reads.of_own ho2))
    have hx := hr.out
    rw [hx.1, hx.2] at C3
    clear ho2 hB2 hc hx hr
    go_wp2_with fail
    refine C3.out.mono ?_; rintro e w' ⟨rfl, rfl⟩
    go_wp2_with fail
    go_ret
    exact ⟨rfl, hS2.out⟩
  · have hv' : Optp.wi v 1 3 = false := by simpa using hv
    have G1 := fun W => Lib.hid (mark_out v W hv')
    have ho : v < 1 ∨ 3 < v := by unfold Optp.wi at hv'; simp at hv'; omega
    clear hv hv'
    rcases ho with ho | ho
    all_goals
      go_enter Try.func7, Try.ntmps7
      go_wp2_with fail
      refine (alive_any _).mono ?_; rintro e w1 ⟨rfl, hB1⟩
      replace hB1 := Lib.hid hB1
      go_wp2_with fail
      refine (C1.out _ hB1.out).mono ?_; rintro e w' ⟨rfl, rfl⟩
      go_wp2_with fail
      refine (C2.out _ hB1.out).mono ?_; rintro e w' ⟨rfl, rfl⟩
      go_wp2_with fail
      refine (G1 _).out.mono ?_; rintro e w' ⟨rfl, rfl⟩
      go_wp2_with fail
      go_ret
      exact ⟨rfl, hB1.out⟩
end Go.Proofs.Ytekimjjbpdkonaa
