/-
  Two rows xored, the law's: walked; and, plainly, the parity of what is xored.
-/
import Derived.Test.YtjbedcgacnnanaaRst
namespace Go.Proofs.Ytjbedcgacnnanaa
set_option linter.unusedSimpArgs false
set_option linter.unusedVariables false
open Go.RowKit

namespace Rsp
def xorB (a b : List UInt8) : List UInt8 := rowF a.length fun m => a.getD m 0 ^^^ b.getD m 0
def xorL (a b : List (List UInt8)) (n : Nat) : List (List UInt8) := (List.range n).map fun t => xorB (a.getD t []) (b.getD t [])
theorem xorB_len (a b : List UInt8) : (xorB a b).length = a.length := rowF_len _ _
theorem xorL_len (a b : List (List UInt8)) (n : Nat) : (xorL a b n).length = n := by simp [xorL]
theorem xorL_step (a b : List (List UInt8)) (n : Nat) : xorL a b (n + 1) = xorL a b n ++ [xorB (a.getD n []) (b.getD n [])] := by
  unfold xorL; rw [List.range_succ, List.map_append]; rfl
theorem getD_mem {l : List (List UInt8)} {t : Nat} (h : t < l.length) : l.getD t [] ∈ l := by
  rw [List.getD_eq_getElem?_getD, List.getElem?_eq_getElem h]; exact List.getElem_mem h
theorem xorL_all {a b : List (List UInt8)} {n L : Nat} (ha : a.length = n) (hL : ∀ x ∈ a, x.length = L) : ∀ x ∈ xorL a b n, x.length = L := fun x hx => by
  unfold xorL at hx
  obtain ⟨t, ht, rfl⟩ := List.mem_map.1 hx
  rw [xorB_len]
  exact hL _ (getD_mem (by have := List.mem_range.1 ht; omega))
theorem at_xor {a b : List (List UInt8)} {n L t m : Nat} (ha : a.length = n) (hL : ∀ x ∈ a, x.length = L) (ht : t < n) (hm : m < L) : at_ (xorL a b n) t m = at_ a t m ^^^ at_ b t m := by
  have e : (xorL a b n).getD t [] = xorB (a.getD t []) (b.getD t []) := by
    rw [List.getD_eq_getElem?_getD]; unfold xorL; rw [List.getElem?_map, List.getElem?_range ht]; rfl
  have hl := hL _ (getD_mem (by omega : t < a.length))
  unfold at_
  rw [e]
  unfold xorB
  rw [List.getD_eq_getElem?_getD, rowF_get _ _ _ (by omega)]; rfl
theorem rowP_xor {a b : List (List UInt8)} {n L : Nat} {f : Nat → UInt8} (ha : a.length = n) (hL : ∀ x ∈ a, x.length = L) : rowP n L f (xorL a b n) = xorB (rowP n L f a) (rowP n L f b) := by
  apply list_ext_getD (by rw [rowP_len, xorB_len, rowP_len])
  intro m hm
  rw [rowP_len] at hm
  rw [rowP_get _ _ _ _ _ hm]
  unfold xorB
  rw [List.getD_eq_getElem?_getD (l := rowF _ _), rowF_get _ _ _ (by rw [rowP_len]; exact hm)]
  show _ = (rowP n L f a).getD m 0 ^^^ (rowP n L f b).getD m 0
  rw [rowP_get _ _ _ _ _ hm, rowP_get _ _ _ _ _ hm, ← Lin.sum_xor]
  exact Lin.sum_congr n fun t ht => by rw [at_xor ha hL ht hm, fm_xor]
theorem times_xor {a b : List (List UInt8)} {p n L i : Nat} {f : Nat → Nat → UInt8} (ha : a.length = n) (hL : ∀ x ∈ a, x.length = L) (hi : i < p) : (timesP p n L f (xorL a b n))[i]? = some (xorB ((timesP p n L f a).getD i []) ((timesP p n L f b).getD i [])) := by
  rw [timesP_get _ _ _ _ _ _ hi, rowP_xor ha hL]
  congr 2
  · rw [List.getD_eq_getElem?_getD, timesP_get _ _ _ _ _ _ hi]; rfl
  · rw [List.getD_eq_getElem?_getD, timesP_get _ _ _ _ _ _ hi]; rfl
theorem xorB_take {a b : List UInt8} {x y : UInt8} {k : Nat} (hx : a[k]? = some x) (hy : b[k]? = some y) : (xorB a b).take (k + 1) = (xorB a b).take k ++ [x ^^^ y] := by
  have hk : k < a.length := (List.getElem?_eq_some_iff.1 hx).1
  rw [List.take_add_one]
  unfold xorB
  rw [rowF_get _ _ _ hk]
  rw [List.getD_eq_getElem?_getD, List.getD_eq_getElem?_getD, hx, hy]; rfl
end Rsp
set_option maxRecDepth 100000 in
set_option maxHeartbeats 4000000 in
theorem xorB_any (A A' : Option Addr) (n c c' : Nat) (xs ys : List UInt8) (w : World) (h1 : Reads w w.heap.size 1 A n (xs.map B8)) (h2 : Reads w w.heap.size 1 A' n (ys.map B8)) (hn : n ≤ 1000000) :
    Calls Try.prog 18 #[.slice A n c, .slice A' n c'] w (SlRet 5 w n ((Rsp.xorB xs ys).map B8)) := by
  have H1 := Lib.hid h1
  have H2 := Lib.hid h2
  have L1 := Lib.hid h1.len
  have TK := Lib.hid (fun k x y hx hy => Rsp.xorB_take (a := xs) (b := ys) (k := k) (x := x) (y := y) hx hy)
  have TA : Hid ((Rsp.xorB xs ys).take n = Rsp.xorB xs ys) := List.take_of_length_le (by rw [Rsp.xorB_len, h1.len]; exact Nat.le_refl _)
  obtain ⟨i0, hi, hz0, hz1, hz2⟩ := info_parts info_u8
  replace hi := Lib.hid hi; replace hz0 := Lib.hid hz0; replace hz1 := Lib.hid hz1; replace hz2 := Lib.hid hz2
  clear h1 h2
  go_enter Try.func18, Try.ntmps18
  go_wp2_with fail
  go_loopw [5, 6] (fun v5 v6 wr => ∃ (k c5 : Nat) (A5 : Option Addr), v5 = .slice A5 k c5 ∧ v6 = .int .i64 k ∧ k ≤ n ∧ Hid (Below w.heap.size w wr) ∧ Hid (wr.ownsRow w.heap.size 5 1 (.slice A5 k c5) k (((Rsp.xorB xs ys).take k).map B8))) (fun _ v6 _ => n - (intOf v6).toNat)
  case atStart => exact ⟨0, 0, none, rfl, rfl, by omega, Below.refl _ _, by rw [List.take_zero]; exact World.ownsRow_nil _ _ _ 1⟩
  case round =>
    obtain ⟨k, c5, A5, rfl, rfl, hkn, HB, HO⟩ := hrel
    by_cases hlt : k < n
    · have hlt' : (k : Int) < (n : Int) := by omega
      obtain ⟨ad, x, hA, hb, hx, e1⟩ := (H1.out.below HB.out).byte hlt
      obtain ⟨ad', y, hA', hb', hy, e2⟩ := (H2.out.below HB.out).byte hlt
      subst hA
      subst hA'
      have hxor := xor8m x y
      have TKk := Lib.hid (TK.out k x y hx hy)
      have CX := Lib.hid (fun W (hW : Below w.heap.size w W) => (H1.out.below hW).cell_at hx)
      have CY := Lib.hid (fun W (hW : Below w.heap.size w W) => (H2.out.below hW).cell_at hy)
      have u1 := x.toNat_lt
      have u2 := y.toNat_lt
      have u3 := (x ^^^ y).toNat_lt
      have hm1 : k + 1 ≤ maxLen := by unfold maxLen; omega
      have hm2 : (k + 1) * 1 ≤ 140737488355328 := by omega
      have hb4 : w.heap.size ≤ wr.heap.size := HB.out.size
      have hb3 : ∀ o, w.heap.size ≤ (wr.alloc o).drew.heap.size := fun o => by
        show w.heap.size ≤ (wr.alloc o).heap.size
        simp; omega
      obtain ⟨z, hz⟩ : ∃ z, Hid (z = (x ^^^ y).toNat) := ⟨_, rfl⟩
      rw [← hz.out] at hxor u3
      clear hb hb' hx hy TK
      generalize x.toNat = xn at *
      generalize y.toNat = yn at *
      go_wp2_with fail
      go_region_held3 (fun w' => w'.cell? (ad.add k) = some (.int .u8 (xn : Int)) ∧ w'.cell? (ad'.add k) = some (.int .u8 (yn : Int)))
        (first | go_keep | exact ⟨hk1, hk2⟩)
        (first
          | (refine step_append_any _ (by rfl) _ _ _ (by rfl) w.heap.size 5 i0 (.int .u8 0) 1 1 Try.underlying35 hi.out hz0.out hz1.out hz2.out rfl (by omega) A5 k c5 _ (by rfl) ((HO.out.alloc _).drew) (wr.heap.size + 1) _ 1 1 _ (by rfl) (reads_one wr _ _) (one_one rfl) hm1 hm2 (hb3 _) ?_
             intro A1 c1 w1 ho1 hg1 _hs1
             have hbw : Below w.heap.size w w1 := below_app ((HB.out.alloc hb4 _).drew) hg1 ((HO.out.alloc _).drew) (hb3 _)
             have hk1 : w1.cell? (ad.add k) = some (.int .u8 (xn : Int)) := CX.out _ hbw
             have hk2 : w1.cell? (ad'.add k) = some (.int .u8 (yn : Int)) := CY.out _ hbw
             replace ho1 := Lib.hid ho1; replace hbw := Lib.hid hbw; clear hg1))
      go_wp2_with fail
      go_roundw
      case rel =>
        refine ⟨k + 1, c1, A1, rfl, by go_num, by omega, hbw, ?_⟩
        have h := ho1.out
        rw [TKk.out, List.map_append]
        show World.ownsRow _ _ _ _ _ _ (_ ++ [Value.int .u8 (((x ^^^ y).toNat : Nat) : Int)])
        rw [← hz.out]
        exact h
      case measure => simp [intOf]; omega
    · obtain rfl : k = n := by omega
      rw [TA.out] at HO
      go_wp2_with fail
      go_ret
      exact ⟨A5, c5, rfl, HO.out, HB.out⟩
end Go.Proofs.Ytjbedcgacnnanaa
