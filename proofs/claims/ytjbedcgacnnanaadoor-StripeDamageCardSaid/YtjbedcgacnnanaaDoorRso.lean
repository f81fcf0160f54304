/-
  Lists of bytes the same: slices.Equal, slices.EqualFunc, the document's Same; a list of lists cut.
-/
import Derived.Test.YtjbedcgacnnanaaDoorRsi
namespace Go.Proofs.YtjbedcgacnnanaaDoor
set_option linter.unusedSimpArgs false
set_option linter.unusedVariables false
open Go.RowKit

set_option maxRecDepth 100000 in
theorem equal_any (A A' : Option Addr) (n n' c c' B B' : Nat) (xs ys : List UInt8) (w : World) (h1 : Reads w B 1 A n (xs.map B8)) (h2 : Reads w B' 1 A' n' (ys.map B8)) (hn : n ≤ 1000000000000) (hn' : n' ≤ 1000000000000) :
    Calls Tryd.prog 48 #[.slice A n c, .slice A' n' c'] w fun e w' => e = .returned (.bool (decide (xs = ys))) ∧ Dr w w' := by
  have l1 := h1.len
  have l2 := h2.len
  by_cases hnn : n = n'
  · subst hnn
    have H1 := Lib.hid h1
    have H2 := Lib.hid h2
    have L := Lib.hid (show xs.length = n ∧ ys.length = n from ⟨l1, l2⟩)
    clear h1 h2 l1 l2
    go_enter Tryd.func48, Tryd.ntmps48
    go_wp2_with fail
    go_loopw [13] (fun i wr => ∃ k : Nat, i = .int .i64 k ∧ k ≤ n ∧ Hid (Dr w wr) ∧ Hid (xs.take k = ys.take k)) (fun i _ => n - (intOf i).toNat)
    case atStart => exact ⟨0, rfl, by omega, Dr.refl w, rfl⟩
    case round =>
      obtain ⟨k, rfl, hk, HD, He⟩ := hrel
      by_cases hlt : k < n
      · obtain ⟨ad, x, rfl, hb, hx, hcx⟩ := (HD.out.reads H1.out).byte hlt
        obtain ⟨ad', y, rfl, hb', hy, hcy⟩ := (HD.out.reads H2.out).byte hlt
        have hlt' : (k : Int) < (n : Int) := by omega
        by_cases hxy : x = y
        · subst hxy
          have He2 : Hid (xs.take (k + 1) = ys.take (k + 1)) := by
            rw [List.take_add_one, List.take_add_one, He.out, hx, hy]; rfl
          clear hx hy hb hb'
          go_wp2_with fail
          go_quiet (fail)
          go_wp2_with fail
          go_roundw
          case rel => exact ⟨k + 1, by go_num, by omega, HD.out.drewN _, He2⟩
          case measure => simp [intOf]; omega
        · have hne : ((x.toNat : Int) != (y.toNat : Int)) = true := by
            rw [bne_iff_ne]
            intro h
            exact hxy (UInt8.toNat_inj.1 (by omega))
          have Hf : Hid (decide (xs = ys) = false) := by
            rw [Hid, decide_eq_false_iff_not]
            rintro rfl
            rw [hx] at hy
            injection hy with hy
            exact hxy hy
          clear hx hy hb hb' hxy
          go_wp2_with fail
          go_quiet (fail)
          go_wp2_with fail
          go_ret
          exact ⟨ret_bool Hf.out.symm, HD.out.drewN _⟩
      · obtain rfl : k = n := by omega
        have Hf : Hid (decide (xs = ys) = true) := by
          have h := He.out
          rw [List.take_of_length_le (by rw [L.out.1]; exact Nat.le_refl _), List.take_of_length_le (by rw [L.out.2]; exact Nat.le_refl _)] at h
          exact decide_eq_true h
        go_wp2_with fail
        go_ret
        exact ⟨ret_bool Hf.out.symm, HD.out⟩
  · have he : ((n : Int) != (n' : Int)) = true := by rw [bne_iff_ne]; omega
    have Hf : Hid (decide (xs = ys) = false) := by
      rw [Hid, decide_eq_false_iff_not]
      rintro rfl
      omega
    clear hnn h1 h2 l1 l2
    go_enter Tryd.func48, Tryd.ntmps48
    go_wp2_with fail
    go_ret
    exact ⟨ret_bool Hf.out.symm, Dr.refl w⟩

theorem lists_take {xss yss : List (List UInt8)} {k : Nat} {x y : List UInt8} (h : xss.take k = yss.take k) (hx : xss[k]? = some x) (hy : yss[k]? = some y) (e : x = y) : xss.take (k + 1) = yss.take (k + 1) := by
  rw [List.take_add_one, List.take_add_one, h, hx, hy, e]
theorem lists_ne {xss yss : List (List UInt8)} {k : Nat} {x y : List UInt8} (hx : xss[k]? = some x) (hy : yss[k]? = some y) (e : x ≠ y) : decide (xss = yss) = false := by
  rw [decide_eq_false_iff_not]
  rintro rfl
  rw [hx] at hy
  injection hy with hy
  exact e hy
theorem lists_eq {xss yss : List (List UInt8)} {k : Nat} (h : xss.take k = yss.take k) (h1 : xss.length = k) (h2 : yss.length = k) : decide (xss = yss) = true := by
  rw [List.take_of_length_le (by omega), List.take_of_length_le (by omega)] at h
  exact decide_eq_true h
theorem lists_len {xss yss : List (List UInt8)} (h : xss.length ≠ yss.length) : decide (xss = yss) = false := by
  rw [decide_eq_false_iff_not]
  rintro rfl
  exact h rfl
theorem Rows8.len {w : World} {B n : Nat} {A : Option Addr} {xss : List (List UInt8)} (h : Rows8 w B A n xss) : xss.length = n := by obtain ⟨_, _, h2, _⟩ := h; exact h2
theorem Dr.rows8 {a w : World} (h : Dr a w) {B n : Nat} {A : Option Addr} {xss : List (List UInt8)} (r : Rows8 a B A n xss) : Rows8 w B A n xss := r.below (h.below B)

namespace Rsp
def great (l : List (List UInt8)) : Bool := decide (16 < l.length) || l.any fun x => decide (40 < x.length)
theorem great_len {l : List (List UInt8)} (h : 16 < l.length) : great l = true := by unfold great; rw [decide_eq_true h]; rfl
theorem great_yes {l : List (List UInt8)} {i : Nat} {x : List UInt8} (hx : l[i]? = some x) (h : 40 < x.length) : great l = true := by
  unfold great
  rw [Bool.or_eq_true]
  exact .inr (List.any_eq_true.2 ⟨x, List.mem_of_getElem? hx, decide_eq_true h⟩)
theorem great_no {l : List (List UInt8)} (h0 : l.length ≤ 16) (h : ∀ (i : Nat) (x : List UInt8), l[i]? = some x → x.length ≤ 40) : great l = false := by
  unfold great
  rw [Bool.or_eq_false_iff]
  refine ⟨decide_eq_false (by omega), List.any_eq_false.2 fun x hx => ?_⟩
  obtain ⟨i, hi, rfl⟩ := List.getElem_of_mem hx
  have := h i _ (List.getElem?_eq_getElem hi)
  simp; omega
theorem great_parts {l : List (List UInt8)} (h : great l = false) : l.length ≤ 16 ∧ ∀ x ∈ l, x.length ≤ 40 := by
  unfold great at h
  rw [Bool.or_eq_false_iff, decide_eq_false_iff_not] at h
  refine ⟨by omega, fun x hx => ?_⟩
  have := List.any_eq_false.1 h.2 x hx
  simp at this; exact this
end Rsp
theorem Rows8.take {w : World} {B n k : Nat} {A : Option Addr} {xss : List (List UInt8)} (h : Rows8 w B A n xss) (hk : k ≤ n) : Rows8 w B A k (xss.take k) := by
  obtain ⟨cs, h1, h2, h3⟩ := h
  refine ⟨cs.take (k * 1), h1.take hk, by rw [List.length_take]; omega, fun i xs hi => ?_⟩
  rw [List.getElem?_take] at hi
  split at hi
  · rename_i hik
    obtain ⟨Ai, ni, ci, a1, a2⟩ := h3 i xs hi
    exact ⟨Ai, ni, ci, by rw [List.getElem?_take, if_pos (by omega)]; exact a1, a2⟩
  · cases hi
theorem Rows8.cut {w : World} {B n k cap : Nat} {A : Option Addr} {xss : List (List UInt8)} (h : Rows8 w B A n xss) (hk : k ≤ n) (hc : n ≤ cap) : Rows8 w B (cutA A cap k 1) (n - k) (xss.drop k) := by
  obtain ⟨cs, h1, h2, h3⟩ := h
  refine ⟨cs.drop (k * 1), h1.cut hk hc, by rw [List.length_drop]; omega, fun i xs hi => ?_⟩
  rw [List.getElem?_drop] at hi
  obtain ⟨Ai, ni, ci, a1, a2⟩ := h3 _ xs hi
  exact ⟨Ai, ni, ci, by rw [List.getElem?_drop, Nat.mul_one]; exact a1, a2⟩
end Go.Proofs.YtjbedcgacnnanaaDoor
