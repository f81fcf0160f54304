/-
  Are all as long as each other: walked.
-/
import Derived.Test.YtjbedcgacnnanaaDoorRsa
namespace Go.Proofs.YtjbedcgacnnanaaDoor
set_option linter.unusedSimpArgs false
set_option linter.unusedVariables false
open Go.RowKit

namespace Rsp
/-- are all as long as the first? -/
def alike (l : List (List UInt8)) : Bool := l.all fun b => decide (b.length = (l.headD []).length)
theorem alike_yes {l : List (List UInt8)} (h : ∀ (i : Nat) (b : List UInt8), l[i]? = some b → b.length = (l.headD []).length) : alike l = true := by
  unfold alike
  rw [List.all_eq_true]
  intro b hb
  obtain ⟨i, hi, rfl⟩ := List.getElem_of_mem hb
  rw [decide_eq_true_iff]
  exact h i _ (List.getElem?_eq_getElem hi)
theorem alike_no {l : List (List UInt8)} {i : Nat} {b : List UInt8} (hb : l[i]? = some b) (h : b.length ≠ (l.headD []).length) : alike l = false := by
  unfold alike
  rw [List.all_eq_false]
  exact ⟨b, List.mem_of_getElem? hb, by simpa using h⟩
end Rsp
theorem Rows8.rowl {w : World} {B n k : Nat} {A : Option Addr} {xss : List (List UInt8)} (h : Rows8 w B A n xss) (hk : k < n) : ∃ ad xs Ai ci, A = some ad ∧ xss[k]? = some xs ∧ w.cell? (ad.add k) = some (.slice Ai xs.length ci) := by
  obtain ⟨ad, xs, Ai, ni, ci, hA, _, hx, hc, _, _, hr⟩ := h.row hk
  have hl := hr.len
  subst hl
  exact ⟨ad, xs, Ai, ci, hA, hx, hc⟩
set_option maxRecDepth 100000 in
theorem alike_any (A : Option Addr) (n c B : Nat) (xss : List (List UInt8)) (w : World) (h : Rows8 w B A n xss) (hn : n ≤ 100000) :
    Calls Tryd.prog 38 #[.slice A n c] w fun e w' => e = .returned (.bool (Rsp.alike xss)) ∧ w = w' := by
  have hl : xss.length = n := by obtain ⟨_, _, h2, _⟩ := h; exact h2
  have H := Lib.hid (fun k (hk : k < n) => h.rowl hk)
  have YES := Lib.hid (fun h => Rsp.alike_yes (l := xss) h)
  have NO := Lib.hid (fun i b hb h => Rsp.alike_no (l := xss) (i := i) (b := b) hb h)
  obtain ⟨L, hL⟩ : ∃ L, (xss.headD []).length = L := ⟨_, rfl⟩
  rw [hL] at YES NO
  have H0 : Hid (∀ x0, xss[0]? = some x0 → x0.length = L) := fun x0 hx => by
    rw [← hL]
    cases xss with
    | nil => simp at hx
    | cons a t => simp at hx; rw [hx]; rfl
  replace hL := Lib.hid hL
  have HL := Lib.hid hl
  obtain ⟨G, hG⟩ : ∃ G, Rsp.alike xss = G := ⟨_, rfl⟩
  rw [hG] at YES NO
  rw [hG]
  clear h hl hG
  go_enter Tryd.func38, Tryd.ntmps38
  go_wp2_with fail
  go_loop [7] (fun v7 => ∃ i : Nat, v7 = .int .i64 i ∧ i ≤ n ∧ Hid (∀ t b, t < i → xss[t]? = some b → b.length = L)) (fun v7 => n - (intOf v7).toNat)
  case atStart => exact ⟨0, rfl, by omega, fun t b ht => by omega⟩
  case round =>
    obtain ⟨i, rfl, hin, HI⟩ := hrel
    by_cases hlt : i < n
    · have hlt' : (i : Int) < (n : Int) := by omega
      obtain ⟨ad, x0, A0, c0, hA, hx0, e0⟩ := H.out 0 (by omega)
      subst hA
      obtain ⟨ad', xi, Ai, ci, hA', hxi, ei⟩ := H.out i hlt
      obtain rfl : ad = ad' := by injection hA'
      have hx0L := H0.out x0 hx0
      rw [hx0L] at e0
      have e0' : w.cell? ad = some (.slice A0 L c0) := by simpa [Addr.add] using e0
      clear e0 hA'
      by_cases hxl : xi.length = L
      · have HI2 : Hid (∀ t b, t < i + 1 → xss[t]? = some b → b.length = L) := fun t b ht hb => by
          by_cases e : t = i
          · rw [e, hxi] at hb; injection hb with hb; rw [← hb]; exact hxl
          · exact HI.out t b (by omega) hb
        rw [hxl] at ei
        replace hxl := Lib.hid hxl
        replace hx0L := Lib.hid hx0L
        go_wp2_with fail
        go_round
        case rel => exact ⟨i + 1, by go_num, by omega, HI2⟩
        case measure => simp [intOf]; omega
      · have hg : Hid (G = false) := NO.out i xi hxi hxl
        have hne : ((xi.length : Int) == (L : Int)) = false := by simp; omega
        have hne2 : ((xi.length : Int) != (L : Int)) = true := by simp; omega
        replace hx0L := Lib.hid hx0L
        generalize xi.length = li at *
        go_wp2_with fail
        go_ret
        exact ⟨by rw [hg.out]; rfl, rfl⟩
    · have hge : (n : Int) ≤ (i : Int) := by omega
      have hg : Hid (G = true) := YES.out (fun t b hb => HI.out t b (by have := (List.getElem?_eq_some_iff.1 hb).1; have := HL.out; omega) hb)
      go_wp2_with fail
      go_ret
      exact ⟨by rw [hg.out]; rfl, rfl⟩
end Go.Proofs.YtjbedcgacnnanaaDoor
