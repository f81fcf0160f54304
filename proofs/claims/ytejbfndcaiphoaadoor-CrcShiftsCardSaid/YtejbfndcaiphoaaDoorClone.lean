/-
  slices.Clone and slices.Equal over bytes, walked: a fresh copy; whether two lists are the same.
-/
import Derived.Test.YtejbfndcaiphoaaDoorChecked
import Derived.Test.YtejbfndcaiphoaaDoorApp
import Derived.Test.YtejbfndcaiphoaaDoorAr
import Derived.Lib.Hide
import Derived.WalkSpells
import Derived.Deep.QuietTactic
import Derived.BigQuiet
import Derived.Outline
namespace Go.Proofs.YtejbfndcaiphoaaDoor
open Go.RowKit

/-- a fresh slice is handed back -/
def SlRet (E : TypeId) (w : World) (n : Nat) (r : List Value) (e : Ending) (w' : World) : Prop := ∃ A c, e = .returned (.slice A n c) ∧ Fresh w w' E A n c r

theorem info_b : (Tryd.prog.info? 5).map (fun i => (i.zero, i.size, i.bytes)) = some (some (.int .u8 0), 1, 1) := by kernel_rfl
theorem b8_one (l : List UInt8) : ∀ u ∈ l.map B8, u.oneCell' = true := by
  intro u hu
  obtain ⟨b, _, rfl⟩ := List.mem_map.1 hu
  rfl
theorem below_alloc {w W : World} (h : Below w.heap.size w W) (o : Obj) : Below w.heap.size w (W.alloc o) := h.alloc h.size o
theorem below_then {w W W' : World} (h : Below w.heap.size w W) (h' : Below W.heap.size W W') : Below w.heap.size w W' := h.trans (h'.mono h.size)
/-- an empty slice that is not nil is owned -/
theorem own_empty (w : World) (base : Nat) (e : TypeId) (hb : base ≤ w.heap.size) : (w.alloc (.cells #[] e)).ownsRow base e 1 (.slice (some ⟨w.heap.size, 0, none⟩) 0 0) 0 [] :=
  World.ownsRow_made w #[] 0 hb (by unfold maxLen; omega) (by simp)

set_option maxRecDepth 100000 in
theorem clone_any (A : Option Addr) (n c B : Nat) (xs : List UInt8) (w : World) (h : Reads w B 1 A n (xs.map B8)) (hB : B ≤ w.heap.size) (hn : n ≤ 140737488355328) :
    Calls Tryd.prog 25 #[.slice A n c] w (SlRet 5 w n (xs.map B8)) := by
  have he := fun W => Lib.run_eql_slice_nil (P := Tryd.prog) W 22 5 A n c 0 0 Tryd.underlying22
  obtain ⟨i0, hi, hz0, hz1, hz2⟩ := info_parts info_b
  replace hi := Lib.hid hi; replace hz0 := Lib.hid hz0; replace hz1 := Lib.hid hz1; replace hz2 := Lib.hid hz2
  have H := Lib.hid h
  cases A with
  | none =>
    have h0 : n = 0 := by
      rcases Nat.eq_zero_or_pos n with h0 | h0
      · exact h0
      · obtain ⟨ad, he, _⟩ := h.2 h0; cases he
    have hx : xs = [] := List.eq_nil_of_length_eq_zero (by have := h.len; omega)
    subst h0
    subst hx
    simp only [Option.isNone] at he
    clear h hB hn
    go_enter Tryd.func25, Tryd.ntmps25
    go_wp2_with fail
    go_ret
    exact ⟨none, 0, rfl, Fresh.nil w _⟩
  | some ad =>
    simp only [Option.isNone] at he
    clear h
    go_enter Tryd.func25, Tryd.ntmps25
    go_wp2_with (at_builtin; refine wpList_append_any _ rfl (.tmp 5) (.tmp 6) 22 rfl w.heap.size 5 i0 (.int .u8 0) 1 1 Tryd.underlying22 hi.out hz0.out hz1.out hz2.out rfl (by omega) (some ⟨w.heap.size, 0, none⟩) 0 0 [] rfl (own_empty w _ _ (Nat.le_refl _)) B (some ad) n c _ rfl (H.out.alloc hB _) (b8_one _) ?_ ?_ ?_ ?_; rotate_left 3; intro A1 c1 w2 ho1 hg1 _hs1; have HB2 := Lib.hid (below_app (below_alloc (Below.refl _ _) _) hg1 (own_empty w _ _ (Nat.le_refl _)) (below_alloc (Below.refl _ w) _).size); replace ho1 := Lib.hid ho1; clear hg1 _hs1)
    rotate_left 1
    · unfold maxLen; omega
    · omega
    · exact (below_alloc (Below.refl _ w) _).size
    go_ret
    refine ⟨A1, c1, by simp, ?_, HB2.out⟩
    have h := ho1.out
    simpa using h

set_option maxRecDepth 100000 in
theorem equal_any (A A' : Option Addr) (n n' c c' B B' : Nat) (xs ys : List UInt8) (w : World) (h1 : Reads w B 1 A n (xs.map B8)) (h2 : Reads w B' 1 A' n' (ys.map B8)) (hn : n ≤ 1000000000000) (hn' : n' ≤ 1000000000000) :
    Calls Tryd.prog 23 #[.slice A n c, .slice A' n' c'] w fun e w' => e = .returned (.bool (decide (xs = ys))) ∧ Dr w w' := by
  have l1 := h1.len
  have l2 := h2.len
  by_cases hnn : n = n'
  · subst hnn
    have H1 := Lib.hid h1
    have H2 := Lib.hid h2
    have L := Lib.hid (show xs.length = n ∧ ys.length = n from ⟨l1, l2⟩)
    clear h1 h2 l1 l2
    go_enter Tryd.func23, Tryd.ntmps23
    go_wp2_with fail
    go_loopw [13] (fun i wr => ∃ k : Nat, i = .int .i64 k ∧ k ≤ n ∧ Hid (Dr w wr) ∧ Hid (xs.take k = ys.take k)) (fun i _ => n - (intOf i).toNat)
    case atStart => exact ⟨0, rfl, by omega, Dr.refl w, rfl⟩
    case round =>
      obtain ⟨k, rfl, hk, HD, He⟩ := hrel
      by_cases hlt : k < n
      · obtain ⟨ad, x, rfl, hb, hx, hcx⟩ := (HD.out.reads H1.out).byte hlt
        obtain ⟨ad', y, rfl, hb', hy, hcy⟩ := (HD.out.reads H2.out).byte hlt
        have hlt' : (k : Int) < (n : Int) := by omega
        by_cases hxy : x = y
        · subst hxy
          have He2 : Hid (xs.take (k + 1) = ys.take (k + 1)) := by
            rw [List.take_add_one, List.take_add_one, He.out, hx, hy]; rfl
          clear hx hy hb hb'
          go_wp2_with fail
          go_quiet (fail)
          go_wp2_with fail
          go_roundw
          case rel => exact ⟨k + 1, by go_num, by omega, HD.out.drewN _, He2⟩
          case measure => simp [intOf]; omega
        · have hne : ((x.toNat : Int) != (y.toNat : Int)) = true := by
            rw [bne_iff_ne]
            intro h
            exact hxy (UInt8.toNat_inj.1 (by omega))
          have Hf : Hid (decide (xs = ys) = false) := by
            rw [Hid, decide_eq_false_iff_not]
            rintro rfl
            rw [hx] at hy
            injection hy with hy
            exact hxy hy
          clear hx hy hb hb' hxy
          go_wp2_with fail
          go_quiet (fail)
          go_wp2_with fail
          go_ret
          exact ⟨ret_bool Hf.out.symm, HD.out.drewN _⟩
      · obtain rfl : k = n := by omega
        have Hf : Hid (decide (xs = ys) = true) := by
          have h := He.out
          rw [List.take_of_length_le (by rw [L.out.1]; exact Nat.le_refl _), List.take_of_length_le (by rw [L.out.2]; exact Nat.le_refl _)] at h
          exact decide_eq_true h
        go_wp2_with fail
        go_ret
        exact ⟨ret_bool Hf.out.symm, HD.out⟩
  · have he : ((n : Int) != (n' : Int)) = true := by rw [bne_iff_ne]; omega
    have Hf : Hid (decide (xs = ys) = false) := by
      rw [Hid, decide_eq_false_iff_not]
      rintro rfl
      omega
    clear hnn h1 h2 l1 l2
    go_enter Tryd.func23, Tryd.ntmps23
    go_wp2_with fail
    go_ret
    exact ⟨ret_bool Hf.out.symm, Dr.refl w⟩
end Go.Proofs.YtejbfndcaiphoaaDoor
