/-
  The law MatCauchy.
-/
import Derived.Test.YtbokbndphpdgoaaMatca
import Derived.Test.YtbokbndphpdgoaaMatpk
namespace Go.Proofs.Ytbokbndphpdgoaa
set_option linter.unusedSimpArgs false
set_option linter.unusedVariables false
open Go.RowKit

theorem info_int : (Try.prog.info? 3).map (fun i => (i.zero, i.size, i.bytes)) = some (some (.int .i64 0), 1, 8) := by kernel_rfl
theorem ints_blk {w : World} {B n : Nat} {A : Option Addr} {xs : List Int} (h : Reads w B 1 A n (xs.map I64)) (hn : 0 < n) : ∃ ad, A = some ad ∧ ad.block < B ∧ ∀ j (hj : j < xs.length), w.cell? (ad.add j) = some (.int .i64 xs[j]) := by
  obtain ⟨ad, e, hb, hc⟩ := h.2 hn
  exact ⟨ad, e, hb, fun j hj => hc j (I64 xs[j]) (by rw [List.getElem?_map, List.getElem?_eq_getElem hj]; rfl)⟩
/-- the numbers as ints -/
def toI (P : List Nat) : List Int := P.map fun (x : Nat) => (x : Int)
theorem toI_len (P : List Nat) : (toI P).length = P.length := by simp [toI]
theorem toI_mem (P : List Nat) (x : Nat) : (x : Int) ∈ toI P ↔ x ∈ P := by
  unfold toI
  rw [List.mem_map]
  constructor
  · rintro ⟨y, hy, e⟩
    obtain rfl : y = x := by omega
    exact hy
  · exact fun h => ⟨x, h, rfl⟩
/-- a number that may not be taken: out of bounds, or among the first j that were taken -/
def bad (q : Nat) (x : Int) : Bool := decide (x < 0) || decide ((q : Int) ≤ x)
def again (q : Nat) (x : Int) (Q : List Int) (j : Nat) : Bool := bad q x || decide (x ∈ Q.take j)
theorem again_zero (q : Nat) (x : Int) (Q : List Int) : again q x Q 0 = bad q x := by simp [again]
theorem again_step (q : Nat) (x : Int) (Q : List Int) (j : Nat) (hj : j < Q.length) : again q x Q (j + 1) = (again q x Q j || decide (Q[j] = x)) := by
  unfold again
  rw [List.take_succ_eq_append_getElem hj, Bool.or_assoc, ← Bool.decide_or]
  congr 1
  rw [decide_eq_decide, List.mem_append, List.mem_singleton]
  constructor
  · rintro (h | h)
    · exact .inl h
    · exact .inr h.symm
  · rintro (h | h)
    · exact .inl h
    · exact .inr h.symm
set_option maxRecDepth 100000 in
set_option maxHeartbeats 8000000 in
theorem matCauchy_walk (a b : Nat) (A : Option Addr) (n0 c0 : Nat) (xs : List Int) (w : World) (ha : a < 256) (hb : b < 256) (_l : n0 ≤ c0) (_m : c0 ≤ maxLen) (h0 : Reads w w.heap.size 1 A n0 (xs.map I64) ∧ ∀ x ∈ xs, (Lit.int .i64 x).wf = true) :
    Calls Try.prog 13 #[.int .u8 a, .int .u8 b, .slice A n0 c0] w fun e w' => e = .returned (.bool true) ∧ Below w.heap.size w w' := by
  have h := h0.1
  have hl : xs.length = n0 := by have := h.1; simpa using this
  have hz := (zero_of_info info_m).1
  have RW := Lib.hid (fun W (hW : Below w.heap.size w W) => (h.below hW).more hW.size)
  obtain ⟨n, hn⟩ : ∃ n, n = 1 + a % 12 := ⟨_, rfl⟩
  obtain ⟨p, hp⟩ : ∃ p, p = b % 13 := ⟨_, rfl⟩
  have hn12 : n ≤ 12 := by omega
  have hn1 : 1 ≤ n := by omega
  have hp12 : p ≤ 12 := by omega
  have en : (1 : Int) + (a : Int) % 12 = (n : Int) := by omega
  have ep : (b : Int) % 13 = (p : Int) := by omega
  replace hn := Lib.hid hn; replace hp := Lib.hid hp
  have L := Lib.hid hl
  clear h0 h hl
  go_enter Try.func13, Try.ntmps13
  go_wp2_with fail
  refine (alive_any _).mono ?_; rintro e w1 ⟨rfl, hB1⟩
  replace hB1 := Lib.hid hB1
  have KI := Lib.hid (fun W => identity_in n W (by omega))
  have KC := Lib.hid (fun W => cauchy_in n p W (by omega))
  have KS := Lib.hid (fun (W : World) (Ai Ac : Option Addr) (ki kc : Nat) h1 h2 h3 h4 => stack2 (W := W) (Ai := Ai) (Ac := Ac) (ki := ki) (kc := kc) (n := n) (p := p) (by omega) h1 h2 h3 h4)
  have hq : n + p ≤ 24 := by omega
  have KP : Hid (∀ (P : List Nat), P.length = n → P.Nodup → (∀ x ∈ P, x < n + p) → ∃ cs : List UInt8, cs.length = n * n ∧
      (∀ (W : World) (Aw Ap : Option Addr) (kw kp : Nat), Reads W W.heap.size 1 Aw ((n + p) * n) ((cellsTo n (Lin.wholeC n) ((n + p) * n)).map B8) → (n + p) * n ≤ kw → Reads W W.heap.size 1 Ap n ((toI P).map I64) →
        Calls Try.prog 25 #[.agg #[.int .i64 ((n + p : Nat) : Int), .int .i64 n, .slice Aw ((n + p) * n) kw], .slice Ap n kp] W (MRet W n n cs 0)) ∧
      ∃ X : Nat → Nat → UInt8, ∀ (W : World) (As : Option Addr) (ks : Nat), Reads W W.heap.size 1 As (n * n) (cs.map B8) → Calls Try.prog 31 #[.agg #[.int .i64 n, .int .i64 n, .slice As (n * n) ks]] W (MRet W n n (cellsTo n X (n * n)) 0)) := fun P hl hnd hP => by
    obtain ⟨X, hX⟩ := sub_inverse n p P (by omega) hl hnd hP
    refine ⟨cellsTo n (fun i j => Lin.wholeC n (P.getD i 0) j) (n * n), cellsTo_len _ _ _, fun W Aw Ap kw kp h1 h2 h3 => ?_, X, fun W As ks h1 => ?_⟩
    · have hg := pickGo_nat (cellsTo n (Lin.wholeC n) ((n + p) * n)) (n + p) n (Lin.wholeC n) rfl P [] hP
      rw [flat_all, hl, List.nil_append] at hg
      refine pick_in (n + p) n Aw Ap ((n + p) * n) kw n kp _ (toI P) W (by omega) (by omega) rfl h2 (by omega) h1 h3 _ (fun out ho e w' hm => ?_) (fun ho => ?_)
      · unfold toI at ho
        rw [hg] at ho
        injection ho with ho
        subst ho
        exact hm
      · unfold toI at ho
        rw [hg] at ho
        cases ho
    · have h2 := inverse_in n As (n * n) ks _ W (by omega) rfl h1
      refine h2.mono fun e w' hr => ?_
      rw [hX] at hr
      exact hr
  unfold MRet at KI KC KS KP
  unfold mC at KI KC KS KP
  simp only [cellsTo_len] at KI KC KS
  obtain ⟨i0, hi, hz0, hz1, hz2⟩ := info_parts info_int
  replace hi := Lib.hid hi; replace hz0 := Lib.hid hz0; replace hz1 := Lib.hid hz1; replace hz2 := Lib.hid hz2
  obtain ⟨q, hqq⟩ : ∃ q, q = n + p := ⟨_, rfl⟩
  have esum : (n : Int) + (p : Int) = (q : Int) := by omega
  have hq24 : q ≤ 24 := by omega
  rw [← hqq] at KS KP
  obtain ⟨N2, hN2⟩ : ∃ N2, n * n = N2 := ⟨_, rfl⟩
  obtain ⟨N3, hN3⟩ : ∃ N3, p * n = N3 := ⟨_, rfl⟩
  obtain ⟨N4, hN4⟩ : ∃ N4, q * n = N4 := ⟨_, rfl⟩
  rw [hN2] at KI KS KP
  rw [hN3] at KC KS
  rw [hN4] at KS KP
  generalize cellsTo n oneC N2 = xi at *
  generalize cellsTo n (cauC n) N3 = xc at *
  generalize cellsTo n (Lin.wholeC n) N4 = xw at *
  replace hN2 := Lib.hid hN2; replace hN3 := Lib.hid hN3; replace hN4 := Lib.hid hN4
  replace hqq := Lib.hid hqq
  go_wp2_with fail
  rw [ep]
  clear en ep
  go_loopw [9, 10] (fun v9 v10 wr => ∃ (i m c1 : Nat) (A1 : Option Addr) (P : List Nat), v9 = .slice A1 m c1 ∧ v10 = .int .i64 i ∧ i ≤ n0 ∧ i ≤ 100 ∧ m ≤ n ∧ Hid (Below w.heap.size w wr) ∧ Hid (P.length = m) ∧ Hid (P.Nodup) ∧ Hid (∀ x ∈ P, x < q) ∧ Hid (wr.ownsRow w.heap.size 3 1 (.slice A1 m c1) m ((toI P).map I64))) (fun _ v10 _ => 100 - (intOf v10).toNat)
  case atStart => exact ⟨0, 0, 0, none, [], rfl, rfl, by omega, by omega, by omega, hB1, rfl, List.nodup_nil, (fun x hx => by cases hx), World.ownsRow_nil _ _ _ 1⟩
  case round =>
    clear hB1
    obtain ⟨i, m, c1, A1, P, rfl, rfl, hi1, hi2, hmn, HB, HL, HND, HPq, HO⟩ := hrel
    by_cases hm : m < n
    · have hm' : (m : Int) < (n : Int) := by omega
      by_cases hi3 : i < n0
      · have hi3' : (i : Int) < (n0 : Int) := by omega
        by_cases hi4 : i < 100
        · have hi4' : (i : Int) < 100 := by omega
          obtain ⟨ad, hA, hadb, hcell⟩ := ints_blk (RW.out w (Below.refl _ _)) (by omega)
          subst hA
          have hxl : i < xs.length := by rw [L.out]; exact hi3
          have CX := Lib.hid (fun W (hW : Below w.heap.size w W) => (hW.cell (p := ad.add i) (by rw [block_of_add]; exact hadb)).trans (hcell i hxl))
          generalize xs[i] = x at *
          clear hcell
          have cx := CX.out wr HB.out
          obtain ⟨bb, hbb⟩ : ∃ bb, Hid (bad q x = bb) := ⟨_, rfl⟩
          have hqb : q ≤ 24 := hq24
          replace hq24 := Lib.hid hq24
          have hneg : x < 0 ∨ 0 ≤ x := by omega
          rcases hneg with hneg | hneg
          · skip
            go_wp2_with fail
            go_loopw [11, 12] (fun v11 v12 wr => ∃ (j : Nat), v11 = .bool (again q x (toI P) j) ∧ v12 = .int .i64 j ∧ j ≤ m ∧ Hid (Below w.heap.size w wr) ∧ Hid (wr.ownsRow w.heap.size 3 1 (.slice A1 m c1) m ((toI P).map I64))) (fun _ v12 _ => m - (intOf v12).toNat)
            case atStart =>
              refine ⟨0, ?_, rfl, by omega, HB, HO⟩
              rw [again_zero]; unfold bad
              first | (rw [decide_eq_true hneg]; rfl) | (rw [decide_eq_false (show ¬ x < 0 by omega), Bool.false_or])
            case round =>
              clear HB HO cx
              obtain ⟨j, rfl, rfl, hjm, HB, HO⟩ := hrel
              by_cases hjl : j < m
              · have hjl' : (j : Int) < (m : Int) := by omega
                obtain ⟨ad1, hA1, _, hcell1⟩ := ints_blk (Reads.of_own HO.out) (by omega)
                have hjP : j < (toI P).length := by rw [toI_len, HL.out]; exact hjl
                have cp := hcell1 j hjP
                have cx := CX.out wr HB.out
                have AS := Lib.hid (again_step q x (toI P) j hjP)
                generalize (toI P)[j] = y at *
                clear hcell1 hjP
                subst hA1
                obtain ⟨b2, hb2⟩ : ∃ b2, again q x (toI P) j = b2 := ⟨_, rfl⟩
                rw [hb2] at AS
                rw [hb2]
                replace hb2 := Lib.hid hb2
                cases b2
                case true =>
                  go_wp2_with fail
                  refine region_E 13 (fun W => W.cell? (ad.add i) = some (.int .i64 x) ∧ W.cell? (ad1.add j) = some (.int .i64 y)) (by kernel_rfl) ⟨cx, cp⟩ (fun hHeld => ?_)
                  refine took 0 (v := ?_) rfl (by kernel_rfl) (by kernel_rfl) (by kernel_rfl) (by kernel_rfl) (fun _ _ _ h => h) (by rfl) (by assumption) ?_ ?_
                  rotate_left
                  · (intro W hSw; (try dsimp only at hSw); go_simp; first | done | with_reducible rfl)
                  try simp only [Act.put, List.setIfInBounds_toArray, List.set_cons_zero, List.set_cons_succ]
                  refine took 1 (v := ?_) rfl (by kernel_rfl) (by kernel_rfl) (by kernel_rfl) (by kernel_rfl) (fun _ _ _ h => h) (by rfl) (by assumption) ?_ ?_
                  rotate_left
                  · (intro W hSw; (try dsimp only at hSw); go_simp; first | done | with_reducible rfl)
                  try simp only [Act.put, List.setIfInBounds_toArray, List.set_cons_zero, List.set_cons_succ]
                  refine passed 2 rfl (by kernel_rfl) (by kernel_rfl) (by kernel_rfl) (by kernel_rfl) (fun _ _ _ h => h) (by rfl) (by assumption) ?_
                  try simp only [Act.put, List.setIfInBounds_toArray, List.set_cons_zero, List.set_cons_succ]
                  refine passed 3 rfl (by kernel_rfl) (by kernel_rfl) (by kernel_rfl) (by kernel_rfl) (fun _ _ _ h => h) (by rfl) (by assumption) ?_
                  try simp only [Act.put, List.setIfInBounds_toArray, List.set_cons_zero, List.set_cons_succ]
                  refine passed 4 rfl (by kernel_rfl) (by kernel_rfl) (by kernel_rfl) (by kernel_rfl) (fun _ _ _ h => h) (by rfl) (by assumption) ?_
                  try simp only [Act.put, List.setIfInBounds_toArray, List.set_cons_zero, List.set_cons_succ]
                  refine passed 5 rfl (by kernel_rfl) (by kernel_rfl) (by kernel_rfl) (by kernel_rfl) (fun _ _ _ h => h) (by rfl) (by assumption) ?_
                  try simp only [Act.put, List.setIfInBounds_toArray, List.set_cons_zero, List.set_cons_succ]
                  refine passed 6 rfl (by kernel_rfl) (by kernel_rfl) (by kernel_rfl) (by kernel_rfl) (fun _ _ _ h => h) (by rfl) (by assumption) ?_
                  try simp only [Act.put, List.setIfInBounds_toArray, List.set_cons_zero, List.set_cons_succ]
                  refine passed 7 rfl (by kernel_rfl) (by kernel_rfl) (by kernel_rfl) (by kernel_rfl) (fun _ _ _ h => h) (by rfl) (by assumption) ?_
                  try simp only [Act.put, List.setIfInBounds_toArray, List.set_cons_zero, List.set_cons_succ]
                  refine passed 8 rfl (by kernel_rfl) (by kernel_rfl) (by kernel_rfl) (by kernel_rfl) (fun _ _ _ h => h) (by rfl) (by assumption) ?_
                  try simp only [Act.put, List.setIfInBounds_toArray, List.set_cons_zero, List.set_cons_succ]
                  refine passed 9 rfl (by kernel_rfl) (by kernel_rfl) (by kernel_rfl) (by kernel_rfl) (fun _ _ _ h => h) (by rfl) (by assumption) ?_
                  try simp only [Act.put, List.setIfInBounds_toArray, List.set_cons_zero, List.set_cons_succ]
                  refine passed 10 rfl (by kernel_rfl) (by kernel_rfl) (by kernel_rfl) (by kernel_rfl) (fun _ _ _ h => h) (by rfl) (by assumption) ?_
                  try simp only [Act.put, List.setIfInBounds_toArray, List.set_cons_zero, List.set_cons_succ]
                  refine took 11 (v := ?_) rfl (by kernel_rfl) (by kernel_rfl) (by kernel_rfl) (by kernel_rfl) (fun _ _ _ h => h) (by rfl) (by assumption) ?_ ?_
                  rotate_left
                  · (intro W hSw; (try dsimp only at hSw); go_simp; first | done | with_reducible rfl)
                  try simp only [Act.put, List.setIfInBounds_toArray, List.set_cons_zero, List.set_cons_succ]
                  refine took 12 (v := ?_) rfl (by kernel_rfl) (by kernel_rfl) (by kernel_rfl) (by kernel_rfl) (fun _ _ _ h => h) (by rfl) (by assumption) ?_ ?_
                  rotate_left
                  · (intro W hSw; (try dsimp only at hSw); go_simp; first | done | with_reducible rfl)
                  try simp only [Act.put, List.setIfInBounds_toArray, List.set_cons_zero, List.set_cons_succ]
                  refine allDone (by kernel_rfl) ?_ _
                  clear hHeld
                  go_wp2_with fail
                  go_roundw
                  case rel => exact ⟨j + 1, by rw [AS.out]; rfl, by go_num, by omega, HB.out.drew, HO.out.drew⟩
                  case measure => simp [intOf]; omega
                case false =>
                  go_wp2_with fail
                  refine region_E 13 (fun W => W.cell? (ad.add i) = some (.int .i64 x) ∧ W.cell? (ad1.add j) = some (.int .i64 y)) (by kernel_rfl) ⟨cx, cp⟩ (fun hHeld => ?_)
                  refine took 0 (v := ?_) rfl (by kernel_rfl) (by kernel_rfl) (by kernel_rfl) (by kernel_rfl) (fun _ _ _ h => h) (by rfl) (by assumption) ?_ ?_
                  rotate_left
                  · (intro W hSw; (try dsimp only at hSw); go_simp; first | done | with_reducible rfl)
                  try simp only [Act.put, List.setIfInBounds_toArray, List.set_cons_zero, List.set_cons_succ]
                  refine took 1 (v := ?_) rfl (by kernel_rfl) (by kernel_rfl) (by kernel_rfl) (by kernel_rfl) (fun _ _ _ h => h) (by rfl) (by assumption) ?_ ?_
                  rotate_left
                  · (intro W hSw; (try dsimp only at hSw); go_simp; first | done | with_reducible rfl)
                  try simp only [Act.put, List.setIfInBounds_toArray, List.set_cons_zero, List.set_cons_succ]
                  refine took 2 (v := ?_) rfl (by kernel_rfl) (by kernel_rfl) (by kernel_rfl) (by kernel_rfl) (fun _ _ _ h => h) (by rfl) (by assumption) ?_ ?_
                  rotate_left
                  · (intro W hSw; (try dsimp only at hSw); go_simp; first | done | with_reducible rfl)
                  try simp only [Act.put, List.setIfInBounds_toArray, List.set_cons_zero, List.set_cons_succ]
                  refine took 3 (v := ?_) rfl (by kernel_rfl) (by kernel_rfl) (by kernel_rfl) (by kernel_rfl) (fun _ _ _ h => h) (by rfl) (by assumption) ?_ ?_
                  rotate_left
                  · (intro W hSw; (try dsimp only at hSw); go_simp; first | done | with_reducible rfl)
                  try simp only [Act.put, List.setIfInBounds_toArray, List.set_cons_zero, List.set_cons_succ]
                  refine took 4 (v := ?_) rfl (by kernel_rfl) (by kernel_rfl) (by kernel_rfl) (by kernel_rfl) (fun _ _ _ h => h) (by rfl) (by assumption) ?_ ?_
                  rotate_left
                  · (intro W hSw; (try dsimp only at hSw); go_simp; first | done | with_reducible rfl)
                  try simp only [Act.put, List.setIfInBounds_toArray, List.set_cons_zero, List.set_cons_succ]
                  refine took 5 (v := ?_) rfl (by kernel_rfl) (by kernel_rfl) (by kernel_rfl) (by kernel_rfl) (fun _ _ _ h => h) (by rfl) (by assumption) ?_ ?_
                  rotate_left
                  · (intro W hSw; (try dsimp only at hSw); go_simp; first | done | with_reducible rfl)
                  try simp only [Act.put, List.setIfInBounds_toArray, List.set_cons_zero, List.set_cons_succ]
                  refine took 6 (v := ?_) rfl (by kernel_rfl) (by kernel_rfl) (by kernel_rfl) (by kernel_rfl) (fun _ _ _ h => h) (by rfl) (by assumption) ?_ ?_
                  rotate_left
                  · (intro W hSw; (try dsimp only at hSw); go_simp; first | done | with_reducible rfl)
                  try simp only [Act.put, List.setIfInBounds_toArray, List.set_cons_zero, List.set_cons_succ]
                  refine took 7 (v := ?_) rfl (by kernel_rfl) (by kernel_rfl) (by kernel_rfl) (by kernel_rfl) (fun _ _ _ h => h) (by rfl) (by assumption) ?_ ?_
                  rotate_left
                  · (intro W hSw; (try dsimp only at hSw); go_simp; first | done | with_reducible rfl)
                  try simp only [Act.put, List.setIfInBounds_toArray, List.set_cons_zero, List.set_cons_succ]
                  refine took 8 (v := ?_) rfl (by kernel_rfl) (by kernel_rfl) (by kernel_rfl) (by kernel_rfl) (fun _ _ _ h => h) (by rfl) (by assumption) ?_ ?_
                  rotate_left
                  · (intro W hSw; (try dsimp only at hSw); go_simp; first | done | with_reducible rfl)
                  try simp only [Act.put, List.setIfInBounds_toArray, List.set_cons_zero, List.set_cons_succ]
                  refine took 9 (v := ?_) rfl (by kernel_rfl) (by kernel_rfl) (by kernel_rfl) (by kernel_rfl) (fun _ _ _ h => h) (by rfl) (by assumption) ?_ ?_
                  rotate_left
                  · (intro W hSw; (try dsimp only at hSw); go_simp; first | done | with_reducible rfl)
                  try simp only [Act.put, List.setIfInBounds_toArray, List.set_cons_zero, List.set_cons_succ]
                  refine took 10 (v := ?_) rfl (by kernel_rfl) (by kernel_rfl) (by kernel_rfl) (by kernel_rfl) (fun _ _ _ h => h) (by rfl) (by assumption) ?_ ?_
                  rotate_left
                  · (intro W hSw; (try dsimp only at hSw); go_simp; first | done | with_reducible rfl)
                  try simp only [Act.put, List.setIfInBounds_toArray, List.set_cons_zero, List.set_cons_succ]
                  refine took 11 (v := ?_) rfl (by kernel_rfl) (by kernel_rfl) (by kernel_rfl) (by kernel_rfl) (fun _ _ _ h => h) (by rfl) (by assumption) ?_ ?_
                  rotate_left
                  · (intro W hSw; (try dsimp only at hSw); go_simp; first | done | with_reducible rfl)
                  try simp only [Act.put, List.setIfInBounds_toArray, List.set_cons_zero, List.set_cons_succ]
                  refine took 12 (v := ?_) rfl (by kernel_rfl) (by kernel_rfl) (by kernel_rfl) (by kernel_rfl) (fun _ _ _ h => h) (by rfl) (by assumption) ?_ ?_
                  rotate_left
                  · (intro W hSw; (try dsimp only at hSw); go_simp; first | done | with_reducible rfl)
                  try simp only [Act.put, List.setIfInBounds_toArray, List.set_cons_zero, List.set_cons_succ]
                  refine allDone (by kernel_rfl) ?_ _
                  clear hHeld
                  go_wp2_with fail
                  go_roundw
                  case rel => exact ⟨j + 1, by rw [AS.out, Bool.false_or, Value.bool.injEq, Bool.eq_iff_iff]; simp, by go_num, by omega, HB.out.drew, HO.out.drew⟩
                  case measure => simp [intOf]; omega
              · have hjge : (m : Int) ≤ (j : Int) := by omega
                have hjm2 : j = m := by omega
                obtain ⟨b2, hb2⟩ : ∃ b2, again q x (toI P) j = b2 := ⟨_, rfl⟩
                rw [hb2]
                have cx := CX.out wr HB.out
                cases b2
                case true =>
                  clear hb2
                  go_wp2_with fail
                  go_roundw
                  case rel => exact ⟨i + 1, m, c1, A1, P, rfl, by go_num, by omega, by omega, by omega, HB, HL, HND, HPq, HO⟩
                  case measure => simp [intOf]; omega
                case false =>
                  have hx1 : 0 ≤ x ∧ x < (q : Int) ∧ x ∉ toI P := by
                    unfold again bad at hb2
                    rw [List.take_of_length_le (by rw [toI_len, HL.out]; omega)] at hb2
                    simp at hb2
                    exact ⟨by omega, by omega, hb2.2⟩
                  exact absurd hx1.1 (by omega)
          · skip
            go_wp2_with fail
            go_loopw [11, 12] (fun v11 v12 wr => ∃ (j : Nat), v11 = .bool (again q x (toI P) j) ∧ v12 = .int .i64 j ∧ j ≤ m ∧ Hid (Below w.heap.size w wr) ∧ Hid (wr.ownsRow w.heap.size 3 1 (.slice A1 m c1) m ((toI P).map I64))) (fun _ v12 _ => m - (intOf v12).toNat)
            case atStart =>
              refine ⟨0, ?_, rfl, by omega, HB, HO⟩
              rw [again_zero]; unfold bad
              first | (rw [decide_eq_true hneg]; rfl) | (rw [decide_eq_false (show ¬ x < 0 by omega), Bool.false_or])
            case round =>
              clear HB HO cx
              obtain ⟨j, rfl, rfl, hjm, HB, HO⟩ := hrel
              by_cases hjl : j < m
              · have hjl' : (j : Int) < (m : Int) := by omega
                obtain ⟨ad1, hA1, _, hcell1⟩ := ints_blk (Reads.of_own HO.out) (by omega)
                have hjP : j < (toI P).length := by rw [toI_len, HL.out]; exact hjl
                have cp := hcell1 j hjP
                have cx := CX.out wr HB.out
                have AS := Lib.hid (again_step q x (toI P) j hjP)
                generalize (toI P)[j] = y at *
                clear hcell1 hjP
                subst hA1
                obtain ⟨b2, hb2⟩ : ∃ b2, again q x (toI P) j = b2 := ⟨_, rfl⟩
                rw [hb2] at AS
                rw [hb2]
                replace hb2 := Lib.hid hb2
                cases b2
                case true =>
                  go_wp2_with fail
                  refine region_E 13 (fun W => W.cell? (ad.add i) = some (.int .i64 x) ∧ W.cell? (ad1.add j) = some (.int .i64 y)) (by kernel_rfl) ⟨cx, cp⟩ (fun hHeld => ?_)
                  refine took 0 (v := ?_) rfl (by kernel_rfl) (by kernel_rfl) (by kernel_rfl) (by kernel_rfl) (fun _ _ _ h => h) (by rfl) (by assumption) ?_ ?_
                  rotate_left
                  · (intro W hSw; (try dsimp only at hSw); go_simp; first | done | with_reducible rfl)
                  try simp only [Act.put, List.setIfInBounds_toArray, List.set_cons_zero, List.set_cons_succ]
                  refine took 1 (v := ?_) rfl (by kernel_rfl) (by kernel_rfl) (by kernel_rfl) (by kernel_rfl) (fun _ _ _ h => h) (by rfl) (by assumption) ?_ ?_
                  rotate_left
                  · (intro W hSw; (try dsimp only at hSw); go_simp; first | done | with_reducible rfl)
                  try simp only [Act.put, List.setIfInBounds_toArray, List.set_cons_zero, List.set_cons_succ]
                  refine passed 2 rfl (by kernel_rfl) (by kernel_rfl) (by kernel_rfl) (by kernel_rfl) (fun _ _ _ h => h) (by rfl) (by assumption) ?_
                  try simp only [Act.put, List.setIfInBounds_toArray, List.set_cons_zero, List.set_cons_succ]
                  refine passed 3 rfl (by kernel_rfl) (by kernel_rfl) (by kernel_rfl) (by kernel_rfl) (fun _ _ _ h => h) (by rfl) (by assumption) ?_
                  try simp only [Act.put, List.setIfInBounds_toArray, List.set_cons_zero, List.set_cons_succ]
                  refine passed 4 rfl (by kernel_rfl) (by kernel_rfl) (by kernel_rfl) (by kernel_rfl) (fun _ _ _ h => h) (by rfl) (by assumption) ?_
                  try simp only [Act.put, List.setIfInBounds_toArray, List.set_cons_zero, List.set_cons_succ]
                  refine passed 5 rfl (by kernel_rfl) (by kernel_rfl) (by kernel_rfl) (by kernel_rfl) (fun _ _ _ h => h) (by rfl) (by assumption) ?_
                  try simp only [Act.put, List.setIfInBounds_toArray, List.set_cons_zero, List.set_cons_succ]
                  refine passed 6 rfl (by kernel_rfl) (by kernel_rfl) (by kernel_rfl) (by kernel_rfl) (fun _ _ _ h => h) (by rfl) (by assumption) ?_
                  try simp only [Act.put, List.setIfInBounds_toArray, List.set_cons_zero, List.set_cons_succ]
                  refine passed 7 rfl (by kernel_rfl) (by kernel_rfl) (by kernel_rfl) (by kernel_rfl) (fun _ _ _ h => h) (by rfl) (by assumption) ?_
                  try simp only [Act.put, List.setIfInBounds_toArray, List.set_cons_zero, List.set_cons_succ]
                  refine passed 8 rfl (by kernel_rfl) (by kernel_rfl) (by kernel_rfl) (by kernel_rfl) (fun _ _ _ h => h) (by rfl) (by assumption) ?_
                  try simp only [Act.put, List.setIfInBounds_toArray, List.set_cons_zero, List.set_cons_succ]
                  refine passed 9 rfl (by kernel_rfl) (by kernel_rfl) (by kernel_rfl) (by kernel_rfl) (fun _ _ _ h => h) (by rfl) (by assumption) ?_
                  try simp only [Act.put, List.setIfInBounds_toArray, List.set_cons_zero, List.set_cons_succ]
                  refine passed 10 rfl (by kernel_rfl) (by kernel_rfl) (by kernel_rfl) (by kernel_rfl) (fun _ _ _ h => h) (by rfl) (by assumption) ?_
                  try simp only [Act.put, List.setIfInBounds_toArray, List.set_cons_zero, List.set_cons_succ]
                  refine took 11 (v := ?_) rfl (by kernel_rfl) (by kernel_rfl) (by kernel_rfl) (by kernel_rfl) (fun _ _ _ h => h) (by rfl) (by assumption) ?_ ?_
                  rotate_left
                  · (intro W hSw; (try dsimp only at hSw); go_simp; first | done | with_reducible rfl)
                  try simp only [Act.put, List.setIfInBounds_toArray, List.set_cons_zero, List.set_cons_succ]
                  refine took 12 (v := ?_) rfl (by kernel_rfl) (by kernel_rfl) (by kernel_rfl) (by kernel_rfl) (fun _ _ _ h => h) (by rfl) (by assumption) ?_ ?_
                  rotate_left
                  · (intro W hSw; (try dsimp only at hSw); go_simp; first | done | with_reducible rfl)
                  try simp only [Act.put, List.setIfInBounds_toArray, List.set_cons_zero, List.set_cons_succ]
                  refine allDone (by kernel_rfl) ?_ _
                  clear hHeld
                  go_wp2_with fail
                  go_roundw
                  case rel => exact ⟨j + 1, by rw [AS.out]; rfl, by go_num, by omega, HB.out.drew, HO.out.drew⟩
                  case measure => simp [intOf]; omega
                case false =>
                  go_wp2_with fail
                  refine region_E 13 (fun W => W.cell? (ad.add i) = some (.int .i64 x) ∧ W.cell? (ad1.add j) = some (.int .i64 y)) (by kernel_rfl) ⟨cx, cp⟩ (fun hHeld => ?_)
                  refine took 0 (v := ?_) rfl (by kernel_rfl) (by kernel_rfl) (by kernel_rfl) (by kernel_rfl) (fun _ _ _ h => h) (by rfl) (by assumption) ?_ ?_
                  rotate_left
                  · (intro W hSw; (try dsimp only at hSw); go_simp; first | done | with_reducible rfl)
                  try simp only [Act.put, List.setIfInBounds_toArray, List.set_cons_zero, List.set_cons_succ]
                  refine took 1 (v := ?_) rfl (by kernel_rfl) (by kernel_rfl) (by kernel_rfl) (by kernel_rfl) (fun _ _ _ h => h) (by rfl) (by assumption) ?_ ?_
                  rotate_left
                  · (intro W hSw; (try dsimp only at hSw); go_simp; first | done | with_reducible rfl)
                  try simp only [Act.put, List.setIfInBounds_toArray, List.set_cons_zero, List.set_cons_succ]
                  refine took 2 (v := ?_) rfl (by kernel_rfl) (by kernel_rfl) (by kernel_rfl) (by kernel_rfl) (fun _ _ _ h => h) (by rfl) (by assumption) ?_ ?_
                  rotate_left
                  · (intro W hSw; (try dsimp only at hSw); go_simp; first | done | with_reducible rfl)
                  try simp only [Act.put, List.setIfInBounds_toArray, List.set_cons_zero, List.set_cons_succ]
                  refine took 3 (v := ?_) rfl (by kernel_rfl) (by kernel_rfl) (by kernel_rfl) (by kernel_rfl) (fun _ _ _ h => h) (by rfl) (by assumption) ?_ ?_
                  rotate_left
                  · (intro W hSw; (try dsimp only at hSw); go_simp; first | done | with_reducible rfl)
                  try simp only [Act.put, List.setIfInBounds_toArray, List.set_cons_zero, List.set_cons_succ]
                  refine took 4 (v := ?_) rfl (by kernel_rfl) (by kernel_rfl) (by kernel_rfl) (by kernel_rfl) (fun _ _ _ h => h) (by rfl) (by assumption) ?_ ?_
                  rotate_left
                  · (intro W hSw; (try dsimp only at hSw); go_simp; first | done | with_reducible rfl)
                  try simp only [Act.put, List.setIfInBounds_toArray, List.set_cons_zero, List.set_cons_succ]
                  refine took 5 (v := ?_) rfl (by kernel_rfl) (by kernel_rfl) (by kernel_rfl) (by kernel_rfl) (fun _ _ _ h => h) (by rfl) (by assumption) ?_ ?_
                  rotate_left
                  · (intro W hSw; (try dsimp only at hSw); go_simp; first | done | with_reducible rfl)
                  try simp only [Act.put, List.setIfInBounds_toArray, List.set_cons_zero, List.set_cons_succ]
                  refine took 6 (v := ?_) rfl (by kernel_rfl) (by kernel_rfl) (by kernel_rfl) (by kernel_rfl) (fun _ _ _ h => h) (by rfl) (by assumption) ?_ ?_
                  rotate_left
                  · (intro W hSw; (try dsimp only at hSw); go_simp; first | done | with_reducible rfl)
                  try simp only [Act.put, List.setIfInBounds_toArray, List.set_cons_zero, List.set_cons_succ]
                  refine took 7 (v := ?_) rfl (by kernel_rfl) (by kernel_rfl) (by kernel_rfl) (by kernel_rfl) (fun _ _ _ h => h) (by rfl) (by assumption) ?_ ?_
                  rotate_left
                  · (intro W hSw; (try dsimp only at hSw); go_simp; first | done | with_reducible rfl)
                  try simp only [Act.put, List.setIfInBounds_toArray, List.set_cons_zero, List.set_cons_succ]
                  refine took 8 (v := ?_) rfl (by kernel_rfl) (by kernel_rfl) (by kernel_rfl) (by kernel_rfl) (fun _ _ _ h => h) (by rfl) (by assumption) ?_ ?_
                  rotate_left
                  · (intro W hSw; (try dsimp only at hSw); go_simp; first | done | with_reducible rfl)
                  try simp only [Act.put, List.setIfInBounds_toArray, List.set_cons_zero, List.set_cons_succ]
                  refine took 9 (v := ?_) rfl (by kernel_rfl) (by kernel_rfl) (by kernel_rfl) (by kernel_rfl) (fun _ _ _ h => h) (by rfl) (by assumption) ?_ ?_
                  rotate_left
                  · (intro W hSw; (try dsimp only at hSw); go_simp; first | done | with_reducible rfl)
                  try simp only [Act.put, List.setIfInBounds_toArray, List.set_cons_zero, List.set_cons_succ]
                  refine took 10 (v := ?_) rfl (by kernel_rfl) (by kernel_rfl) (by kernel_rfl) (by kernel_rfl) (fun _ _ _ h => h) (by rfl) (by assumption) ?_ ?_
                  rotate_left
                  · (intro W hSw; (try dsimp only at hSw); go_simp; first | done | with_reducible rfl)
                  try simp only [Act.put, List.setIfInBounds_toArray, List.set_cons_zero, List.set_cons_succ]
                  refine took 11 (v := ?_) rfl (by kernel_rfl) (by kernel_rfl) (by kernel_rfl) (by kernel_rfl) (fun _ _ _ h => h) (by rfl) (by assumption) ?_ ?_
                  rotate_left
                  · (intro W hSw; (try dsimp only at hSw); go_simp; first | done | with_reducible rfl)
                  try simp only [Act.put, List.setIfInBounds_toArray, List.set_cons_zero, List.set_cons_succ]
                  refine took 12 (v := ?_) rfl (by kernel_rfl) (by kernel_rfl) (by kernel_rfl) (by kernel_rfl) (fun _ _ _ h => h) (by rfl) (by assumption) ?_ ?_
                  rotate_left
                  · (intro W hSw; (try dsimp only at hSw); go_simp; first | done | with_reducible rfl)
                  try simp only [Act.put, List.setIfInBounds_toArray, List.set_cons_zero, List.set_cons_succ]
                  refine allDone (by kernel_rfl) ?_ _
                  clear hHeld
                  go_wp2_with fail
                  go_roundw
                  case rel => exact ⟨j + 1, by rw [AS.out, Bool.false_or, Value.bool.injEq, Bool.eq_iff_iff]; simp, by go_num, by omega, HB.out.drew, HO.out.drew⟩
                  case measure => simp [intOf]; omega
              · have hjge : (m : Int) ≤ (j : Int) := by omega
                have hjm2 : j = m := by omega
                obtain ⟨b2, hb2⟩ : ∃ b2, again q x (toI P) j = b2 := ⟨_, rfl⟩
                rw [hb2]
                have cx := CX.out wr HB.out
                cases b2
                case true =>
                  clear hb2
                  go_wp2_with fail
                  go_roundw
                  case rel => exact ⟨i + 1, m, c1, A1, P, rfl, by go_num, by omega, by omega, by omega, HB, HL, HND, HPq, HO⟩
                  case measure => simp [intOf]; omega
                case false =>
                  have hx1 : 0 ≤ x ∧ x < (q : Int) ∧ x ∉ toI P := by
                    unfold again bad at hb2
                    rw [List.take_of_length_le (by rw [toI_len, HL.out]; omega)] at hb2
                    simp at hb2
                    exact ⟨by omega, by omega, hb2.2⟩
                  obtain ⟨z, hz0'⟩ : ∃ z : Nat, x = (z : Int) := ⟨x.toNat, by omega⟩
                  subst hz0'
                  have hzq : Hid (z < q) := by unfold Hid; omega
                  have hzP : Hid (z ∉ P) := fun hm => hx1.2.2 ((toI_mem P z).2 hm)
                  have hmb : m + 1 ≤ maxLen := by unfold maxLen; omega
                  have hmb2 : (m + 1) * 8 ≤ 140737488355328 := by omega
                  clear hb2 hx1
                  go_wp2_with (at_builtin; refine wpList_append_any _ rfl (.tmp 83) (.tmp 88) 37 rfl w.heap.size 3 i0 (.int .i64 0) 1 8 Try.underlying37 hi.out hz0.out hz1.out hz2.out rfl (by omega) A1 m c1 _ rfl (HO.out.alloc (.cells #[.int .i64 (z : Int)] 3)) (wr.heap.size + 1) _ 1 1 _ rfl (reads_one wr _ _) (one_one rfl) hmb hmb2 (show w.heap.size ≤ (wr.alloc (.cells #[.int .i64 (z : Int)] 3)).heap.size from Nat.le_trans HB.out.size (by simp)) ?_; intro A3 c3 w4 ho4 hgq _hsq; have hB4 : Below w.heap.size w w4 := below_app (HB.out.alloc HB.out.size (.cells #[.int .i64 (z : Int)] 3)) hgq (HO.out.alloc (.cells #[.int .i64 (z : Int)] 3)) (show w.heap.size ≤ (wr.alloc (.cells #[.int .i64 (z : Int)] 3)).heap.size from Nat.le_trans HB.out.size (by simp)); replace ho4 := Lib.hid ho4; replace hB4 := Lib.hid hB4; clear hgq _hsq)
                  go_roundw
                  case rel =>
                    refine ⟨i + 1, m + 1, c3, A3, P ++ [z], rfl, by go_num, by omega, by omega, by omega, hB4, ?_, ?_, ?_, ?_⟩
                    · unfold Hid; rw [List.length_append, HL.out]; rfl
                    · exact List.nodup_append.2 ⟨HND.out, by simp, fun u hu v hv e => by rw [List.mem_singleton.1 hv] at e; subst e; exact hzP.out hu⟩
                    · intro u hu; rcases List.mem_append.1 hu with h1 | h1; exact HPq.out u h1; rw [List.mem_singleton.1 h1]; exact hzq.out
                    · have e9 : (toI (P ++ [z])).map I64 = (toI P).map I64 ++ [.int .i64 (z : Int)] := by simp [toI, I64]
                      unfold Hid; rw [e9]; exact ho4.out
                  case measure => simp [intOf]; omega
        · have hi4' : (100 : Int) ≤ (i : Int) := by omega
          go_wp2_with fail
          go_ret
          exact ⟨rfl, HB.out⟩
      · have hi3' : (n0 : Int) ≤ (i : Int) := by omega
        go_wp2_with fail
        go_ret
        exact ⟨rfl, HB.out⟩
    · obtain rfl : m = n := by omega
      obtain ⟨cs, hcs, KP1, X, KV⟩ := KP.out P HL.out HND.out HPq.out
      generalize cellsTo m X N2 = xv at *
      replace KP1 := Lib.hid KP1; replace KV := Lib.hid KV; replace hcs := Lib.hid hcs
      have hlen : Hid (cs.length = N2) := by unfold Hid; rw [hcs.out]
      rw [hlen.out] at KP1
      obtain ⟨nv, hnv⟩ : ∃ nv, xv.length = nv := ⟨_, rfl⟩
      rw [hnv] at KV
      replace hnv := Lib.hid hnv
      clear KP HL HND HPq
      have hio : ((i : Int) < (n0 : Int) ∧ (i : Int) < 100) ∨ ((i : Int) < (n0 : Int) ∧ (100 : Int) ≤ (i : Int)) ∨ ((n0 : Int) ≤ (i : Int)) := by omega
      have hmm : ¬ ((m : Int) < (m : Int)) := by omega
      rcases hio with ⟨h1, h2⟩ | ⟨h1, h2⟩ | h1
      all_goals
        go_wp2_with fail
        refine (KI.out _).mono ?_; rintro e w11 ⟨Ai, ki, rfl, hoi, hBi⟩
        have hpi := mret_parts hoi
        replace HB := Lib.hid (below_alloc (below_then HB.out hBi) (.cells #[.int .i64 (m : Nat), .int .i64 (m : Nat), .slice Ai N2 ki] 24))
        replace HO := Lib.hid ((own_belowL HO.out hBi).alloc (.cells #[.int .i64 (m : Nat), .int .i64 (m : Nat), .slice Ai N2 ki] 24))
        have Mi := Lib.hid (MB.new (r := (m : Nat)) (c := (m : Nat)) hpi.1 hpi.2)
        clear hpi hoi hBi
        obtain ⟨qi0, qi1, qi2⟩ := Mi.out.cells
        go_wp2_with fail
        generalize w11.alloc (.cells #[.int .i64 (m : Nat), .int .i64 (m : Nat), .slice Ai N2 ki] 24) = w11a at *
        generalize w11.heap.size = gi at *
        refine (KC.out _).mono ?_; rintro e w12 ⟨Ac, kc, rfl, hoc, hBc⟩
        have hpc := mret_parts hoc
        clear qi0 qi1 qi2
        replace Mi := Lib.hid ((Mi.out.below hBc).alloc (.cells #[.int .i64 (p : Nat), .int .i64 (m : Nat), .slice Ac N3 kc] 24))
        replace HB := Lib.hid (below_alloc (below_then HB.out hBc) (.cells #[.int .i64 (p : Nat), .int .i64 (m : Nat), .slice Ac N3 kc] 24))
        replace HO := Lib.hid ((own_belowL HO.out hBc).alloc (.cells #[.int .i64 (p : Nat), .int .i64 (m : Nat), .slice Ac N3 kc] 24))
        have Mc := Lib.hid (MB.new (r := (p : Nat)) (c := (m : Nat)) hpc.1 hpc.2)
        clear hpc hoc hBc
        obtain ⟨qi0, qi1, qi2⟩ := Mi.out.cells
        obtain ⟨qc0, qc1, qc2⟩ := Mc.out.cells
        go_wp2_with fail
        rw [show w12.heap.size + 1 = (w12.alloc (.cells #[.int .i64 (p : Nat), .int .i64 (m : Nat), .slice Ac N3 kc] 24)).heap.size by simp]
        generalize w12.alloc (.cells #[.int .i64 (p : Nat), .int .i64 (m : Nat), .slice Ac N3 kc] 24) = w12a at *
        generalize w12.heap.size = gc at *
        refine (KS.out _ _ _ _ _ Mi.out.rd Mc.out.rd Mi.out.cap Mc.out.cap).mono ?_; rintro e w13 ⟨As, ks, rfl, hos, hBs⟩
        have hps := mret_parts hos
        clear qi0 qi1 qi2 qc0 qc1 qc2
        replace Mi := Lib.hid ((Mi.out.below hBs).alloc (.cells #[.int .i64 (q : Nat), .int .i64 (m : Nat), .slice As N4 ks] 24))
        replace Mc := Lib.hid ((Mc.out.below hBs).alloc (.cells #[.int .i64 (q : Nat), .int .i64 (m : Nat), .slice As N4 ks] 24))
        replace HB := Lib.hid (below_alloc (below_then HB.out hBs) (.cells #[.int .i64 (q : Nat), .int .i64 (m : Nat), .slice As N4 ks] 24))
        replace HO := Lib.hid ((own_belowL HO.out hBs).alloc (.cells #[.int .i64 (q : Nat), .int .i64 (m : Nat), .slice As N4 ks] 24))
        have Ms := Lib.hid (MB.new (r := (q : Nat)) (c := (m : Nat)) hps.1 hps.2)
        clear hps hos hBs
        obtain ⟨qi0, qi1, qi2⟩ := Mi.out.cells
        obtain ⟨qc0, qc1, qc2⟩ := Mc.out.cells
        obtain ⟨qs0, qs1, qs2⟩ := Ms.out.cells
        go_wp2_with fail
        generalize w13.alloc (.cells #[.int .i64 (q : Nat), .int .i64 (m : Nat), .slice As N4 ks] 24) = w13a at *
        generalize w13.heap.size = gs at *
        refine (KP1.out _ _ _ _ _ Ms.out.rd Ms.out.cap (Reads.of_own HO.out)).mono ?_; rintro e w14 ⟨Au, ku, rfl, hou, hBu⟩
        have hpu := mret_parts hou
        clear qi0 qi1 qi2 qc0 qc1 qc2 qs0 qs1 qs2
        replace Mi := Lib.hid ((Mi.out.below hBu).alloc (.cells #[.int .i64 (m : Nat), .int .i64 (m : Nat), .slice Au N2 ku] 24))
        replace Mc := Lib.hid ((Mc.out.below hBu).alloc (.cells #[.int .i64 (m : Nat), .int .i64 (m : Nat), .slice Au N2 ku] 24))
        replace Ms := Lib.hid ((Ms.out.below hBu).alloc (.cells #[.int .i64 (m : Nat), .int .i64 (m : Nat), .slice Au N2 ku] 24))
        replace HB := Lib.hid (below_alloc (below_then HB.out hBu) (.cells #[.int .i64 (m : Nat), .int .i64 (m : Nat), .slice Au N2 ku] 24))
        replace HO := Lib.hid ((own_belowL HO.out hBu).alloc (.cells #[.int .i64 (m : Nat), .int .i64 (m : Nat), .slice Au N2 ku] 24))
        have Mu := Lib.hid (MB.new (r := (m : Nat)) (c := (m : Nat)) hpu.1 hpu.2)
        clear hpu hou hBu
        obtain ⟨qi0, qi1, qi2⟩ := Mi.out.cells
        obtain ⟨qc0, qc1, qc2⟩ := Mc.out.cells
        obtain ⟨qs0, qs1, qs2⟩ := Ms.out.cells
        obtain ⟨qu0, qu1, qu2⟩ := Mu.out.cells
        go_wp2_with fail
        generalize w14.alloc (.cells #[.int .i64 (m : Nat), .int .i64 (m : Nat), .slice Au N2 ku] 24) = w14a at *
        generalize w14.heap.size = gu at *
        refine (KV.out _ _ _ Mu.out.rd).mono ?_; rintro e w15 ⟨Av, kv, rfl, hov, hBv⟩
        have hpv := mret_parts hov
        clear qi0 qi1 qi2 qc0 qc1 qc2 qs0 qs1 qs2 qu0 qu1 qu2
        replace Mi := Lib.hid ((Mi.out.below hBv).alloc (.cells #[.int .i64 (m : Nat), .int .i64 (m : Nat), .slice Av nv kv] 24))
        replace Mc := Lib.hid ((Mc.out.below hBv).alloc (.cells #[.int .i64 (m : Nat), .int .i64 (m : Nat), .slice Av nv kv] 24))
        replace Ms := Lib.hid ((Ms.out.below hBv).alloc (.cells #[.int .i64 (m : Nat), .int .i64 (m : Nat), .slice Av nv kv] 24))
        replace Mu := Lib.hid ((Mu.out.below hBv).alloc (.cells #[.int .i64 (m : Nat), .int .i64 (m : Nat), .slice Av nv kv] 24))
        replace HB := Lib.hid (below_alloc (below_then HB.out hBv) (.cells #[.int .i64 (m : Nat), .int .i64 (m : Nat), .slice Av nv kv] 24))
        replace HO := Lib.hid ((own_belowL HO.out hBv).alloc (.cells #[.int .i64 (m : Nat), .int .i64 (m : Nat), .slice Av nv kv] 24))
        have Mv := Lib.hid (MB.new (r := (m : Nat)) (c := (m : Nat)) hpv.1 hpv.2)
        clear hpv hov hBv
        obtain ⟨qi0, qi1, qi2⟩ := Mi.out.cells
        obtain ⟨qc0, qc1, qc2⟩ := Mc.out.cells
        obtain ⟨qs0, qs1, qs2⟩ := Ms.out.cells
        obtain ⟨qu0, qu1, qu2⟩ := Mu.out.cells
        obtain ⟨qv0, qv1, qv2⟩ := Mv.out.cells
        go_wp2_with fail
        go_ret
        exact ⟨rfl, HB.out⟩
end Go.Proofs.Ytbokbndphpdgoaa
