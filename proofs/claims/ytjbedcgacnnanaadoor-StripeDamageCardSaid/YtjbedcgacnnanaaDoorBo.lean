/-
  Texts put together: Mats Matt.
-/
import Derived.Test.YtjbedcgacnnanaaDoorBn
import Derived.Test.YtjbedcgacnnanaaDoorBa
namespace Go.Proofs.YtjbedcgacnnanaaDoor
set_option linter.unusedSimpArgs false
set_option linter.unusedVariables false
open Go.RowKit

/-- a slice of matrices, read -/
def MatsR (w : World) (B : Nat) (A : Option Addr) (n : Nat) (l : List (Int × Int × List UInt8)) : Prop :=
  l.length = n ∧ (0 < n → ∃ ad, A = some ad ∧ ad.block < B ∧ ∀ (i : Nat) (hi : i < l.length), ∃ (Ai : Option Addr) (ni ci : Nat), w.cell? (ad.add (i * 3)) = some (.int .i64 l[i].1) ∧ w.cell? (ad.add (i * 3 + 1)) = some (.int .i64 l[i].2.1) ∧ w.cell? (ad.add (i * 3 + 2)) = some (.slice Ai ni ci) ∧ ni ≤ ci ∧ Reads w B 1 Ai ni (l[i].2.2.map B8))
theorem MatsR.below {w w' : World} {B n : Nat} {A : Option Addr} {l : List (Int × Int × List UInt8)} (h : MatsR w B A n l) (hb : Below B w w') : MatsR w' B A n l := by
  refine ⟨h.1, fun hn => ?_⟩
  obtain ⟨ad, e, hB, hc⟩ := h.2 hn
  refine ⟨ad, e, hB, fun i hi => ?_⟩
  obtain ⟨Ai, ni, ci, h0, h1, h2, h3, h4⟩ := hc i hi
  have hk : ∀ k, w'.cell? (ad.add k) = w.cell? (ad.add k) := fun k => hb.cell (p := ad.add k) (by rw [block_of_add]; exact hB)
  exact ⟨Ai, ni, ci, (hk _).trans h0, (hk _).trans h1, (hk _).trans h2, h3, h4.below hb⟩

theorem MatsR.row {w : World} {B n : Nat} {A : Option Addr} {l : List (Int × Int × List UInt8)} (h : MatsR w B A n l) (j : Nat) (hj : j < l.length) : ∃ ad, A = some ad ∧ ad.block < B ∧ ∃ (Ai : Option Addr) (ni ci : Nat), w.cell? (ad.add (j * 3)) = some (.int .i64 l[j].1) ∧ w.cell? ⟨(ad.add (j * 3)).block, (ad.add (j * 3)).off + 1, none⟩ = some (.int .i64 l[j].2.1) ∧ w.cell? ⟨(ad.add (j * 3)).block, (ad.add (j * 3)).off + 2, none⟩ = some (.slice Ai ni ci) ∧ ni ≤ ci ∧ Reads w B 1 Ai ni (l[j].2.2.map B8) := by
  obtain ⟨ad, hA, hb, hc⟩ := h.2 (by have := h.1; omega)
  obtain ⟨Ai, ni, ci, h0, h1, h2, h3, h4⟩ := hc j hj
  rw [← add_of_add, show (ad.add (j * 3)).add 1 = ⟨(ad.add (j * 3)).block, (ad.add (j * 3)).off + 1, none⟩ from rfl] at h1
  rw [← add_of_add, show (ad.add (j * 3)).add 2 = ⟨(ad.add (j * 3)).block, (ad.add (j * 3)).off + 2, none⟩ from rfl] at h2
  exact ⟨ad, hA, hb, Ai, ni, ci, h0, h1, h2, h3, h4⟩
/-- matrices one below the other, as long as they may be -/
def stackGo (C : Int) : List (Int × Int × List UInt8) → Nat → List UInt8 → Option (Nat × List UInt8)
  | [], R, out => some (R, out)
  | m :: t, R, out => if Matp.may m.1 m.2.1 m.2.2.length = true ∧ m.2.1 = C ∧ (R : Int) + m.1 ≤ 255 then stackGo C t (R + m.1.toNat) (out ++ m.2.2) else none
def stackC (l : List (Int × Int × List UInt8)) : Int := match l with
  | [] => 0
  | m :: _ => m.2.1
theorem stackGo_step (C : Int) (l : List (Int × Int × List UInt8)) (j : Nat) (hj : j < l.length) (R : Nat) (out : List UInt8) : stackGo C (l.drop j) R out = if Matp.may l[j].1 l[j].2.1 l[j].2.2.length = true ∧ l[j].2.1 = C ∧ (R : Int) + l[j].1 ≤ 255 then stackGo C (l.drop (j + 1)) (R + l[j].1.toNat) (out ++ l[j].2.2) else none := by
  rw [List.drop_eq_getElem_cons hj]; rfl
theorem stackC_zero (l : List (Int × Int × List UInt8)) (hj : 0 < l.length) : stackC l = l[0].2.1 := by
  match l, hj with
  | m :: _, _ => rfl

set_option maxRecDepth 100000 in
set_option maxHeartbeats 4000000 in
theorem stack_any (A : Option Addr) (n k : Nat) (l : List (Int × Int × List UInt8)) (w : World) (hn : n ≤ 20) (h : MatsR w w.heap.size A n l) (P0 : Ending → World → Prop)
    (hS : ∀ R out, stackGo (stackC l) l 0 [] = some (R, out) → ∀ C : Nat, stackC l = C → ∀ e w', MRet w R C out 0 e w' → P0 e w') (hN : stackGo (stackC l) l 0 [] = none → ∀ e w', MRet w 0 0 [] 13 e w' → P0 e w') :
    Calls Tryd.prog 77 #[.slice A n k] w P0 := by
  have hl : l.length = n := h.1
  have hz := (zero_of_info info_m).1
  obtain ⟨i0, hi, hz0, hz1, hz2⟩ := info_parts info_u8
  replace hi := Lib.hid hi; replace hz0 := Lib.hid hz0; replace hz1 := Lib.hid hz1; replace hz2 := Lib.hid hz2
  replace hS := Lib.hid hS; replace hN := Lib.hid hN
  have L := Lib.hid hl
  have H := Lib.hid h
  have M := fun r c A n k W => Lib.hid (may_any r c A n k W)
  unfold mC at M
  have Z0 := Lib.hid (stackC_zero l)
  obtain ⟨C0, hC0⟩ : ∃ C0, C0 = stackC l := ⟨_, rfl⟩
  rw [← hC0] at hS hN Z0
  have ZN : Hid (l.length = 0 → C0 = 0) := fun h => by rw [hC0, List.eq_nil_of_length_eq_zero h]; rfl
  clear h hl hC0
  go_enter Tryd.func77, Tryd.ntmps77
  go_wp2_with fail
  have hb2 : Blk ((w.alloc (.cells #[.int .i64 0, .int .i64 0, .slice none 0 0] 75)).alloc (.cells #[.int .i64 0, .int .i64 0, .slice none 0 0] 75)) w.heap.size 75 (mC 0 0 (.slice none 0 0)) := (Blk.new w _ _).alloc _
  have hb4 : Blk ((w.alloc (.cells #[.int .i64 0, .int .i64 0, .slice none 0 0] 75)).alloc (.cells #[.int .i64 0, .int .i64 0, .slice none 0 0] 75)) (w.heap.size + 1) 75 (mC (0 : Nat) 0 (.slice none 0 0)) := by
    have h := Blk.new (w.alloc (.cells #[.int .i64 0, .int .i64 0, .slice none 0 0] 75)) 75 (mC 0 0 (.slice none 0 0))
    simpa [mC] using h
  have hB := ((Below.refl w.heap.size w).alloc (Nat.le_refl _) (.cells #[.int .i64 0, .int .i64 0, .slice none 0 0] 75)).alloc (by simp) (.cells #[.int .i64 0, .int .i64 0, .slice none 0 0] 75)
  generalize (w.alloc (.cells #[.int .i64 0, .int .i64 0, .slice none 0 0] 75)).alloc (.cells #[.int .i64 0, .int .i64 0, .slice none 0 0] 75) = w3 at *
  replace hb2 := Lib.hid hb2; replace hb4 := Lib.hid hb4; replace hB := Lib.hid hB
  go_loopw [9] (fun v9 wr => ∃ (j c' R m : Nat) (A1 : Option Addr) (out : List UInt8) (cv : Int), v9 = .int .i64 j ∧ j ≤ n ∧ R ≤ 255 ∧ m ≤ R * 255 ∧ Hid (j = 0 → cv = 0) ∧ Hid (0 < j → cv = C0 ∧ 0 ≤ C0) ∧ Hid (Below w.heap.size w wr) ∧ Hid (Blk wr w.heap.size 75 (mC 0 0 (.slice none 0 0))) ∧ Hid (Blk wr (w.heap.size + 1) 75 (mC R cv (.slice A1 m c'))) ∧ Hid (wr.ownsRow w.heap.size 5 1 (.slice A1 m c') m (out.map B8)) ∧ Hid (stackGo C0 (l.drop j) R out = stackGo C0 l 0 [])) (fun v9 _ => n - (intOf v9).toNat)
  case atStart => exact ⟨0, 0, 0, 0, none, [], 0, rfl, by omega, by omega, by omega, fun _ => rfl, fun h => absurd h (by omega), hB, hb2, hb4, World.ownsRow_nil _ _ _ 1, rfl⟩
  case round =>
    obtain ⟨j, c', R, m, A1, out, cv, rfl, hjn, hR, hmR, Hc0, Hc1, HB, Hb2, Hb4, HO, HP⟩ := hrel
    by_cases hlt : j < n
    · have hlt' : (j : Int) < n := by omega
      have hjx : j < l.length := by rw [L.out]; exact hlt
      obtain ⟨ad, rfl, adb, Ai, ni, ci, e0, e1, e2, hnc, hread⟩ := (H.out.below HB.out).row j hjx
      have HP2 := Lib.hid (stackGo_step C0 l j hjx R out)
      have Z00 : Hid (j = 0 → C0 = l[j].2.1) := fun h => by subst h; exact Z0.out hjx
      have hni : Hid (l[j].2.2.length = ni) := hread.len
      replace hread := Lib.hid hread
      rw [hni.out] at HP2
      generalize l[j].1 = r at *
      generalize l[j].2.1 = c at *
      generalize l[j].2.2 = bs at *
      have hgw : w.heap.size + 1 < wr.heap.size := Hb4.out.lt
      have hgw0 : w.heap.size < wr.heap.size := by omega
      obtain ⟨W, HW⟩ : ∃ W, W = (if j = 0 then (wr.setCell ⟨w.heap.size + 1, 1, none⟩ (.int .i64 c)).alloc (.cells #[.int .i64 r, .int .i64 c, .slice Ai ni ci] 75) else wr.alloc (.cells #[.int .i64 r, .int .i64 c, .slice Ai ni ci] 75)) := ⟨_, rfl⟩
      have FACTS : Hid (Below w.heap.size w W ∧ Below w.heap.size wr W ∧ Blk W w.heap.size 75 (mC 0 0 (.slice none 0 0)) ∧ Blk W (w.heap.size + 1) 75 (mC R C0 (.slice A1 m c')) ∧ Blk W wr.heap.size 75 (mC r c (.slice Ai ni ci)) ∧ W.ownsRow w.heap.size 5 1 (.slice A1 m c') m (out.map B8)) := by
        by_cases hj0 : j = 0
        · rw [if_pos hj0] at HW
          rw [HW]
          have hz : (wr.setCell ⟨w.heap.size + 1, 1, none⟩ (.int .i64 c)).heap.size = wr.heap.size := by simp
          have hb6 := Blk.new (wr.setCell ⟨w.heap.size + 1, 1, none⟩ (.int .i64 c)) 75 #[.int .i64 r, .int .i64 c, .slice Ai ni ci]
          rw [hz] at hb6
          refine ⟨below_alloc (HB.out.setCell (p := ⟨w.heap.size + 1, 1, none⟩) (Nat.le_succ _) _) _, ((Below.refl _ _).setCell (p := ⟨w.heap.size + 1, 1, none⟩) (Nat.le_succ _) _).alloc (by rw [hz]; omega) _, (Hb2.out.far (p := ⟨w.heap.size + 1, 1, none⟩) (Nat.ne_of_lt (Nat.lt_succ_self _)) _).alloc _, ?_, hb6, (own_setM (j := 1) HO.out Hb4.out _).alloc _⟩
          rw [Z00.out hj0]
          exact (Hb4.out.set_ 1 (.int .i64 c)).alloc _
        · rw [if_neg hj0] at HW
          rw [HW]
          refine ⟨below_alloc HB.out _, (Below.refl _ _).alloc (by omega) _, Hb2.out.alloc _, ?_, Blk.new wr _ _, HO.out.alloc _⟩
          rw [← (Hc1.out (by omega)).1]
          exact Hb4.out.alloc _
      have k41 := Hb4.out.cell 1
      have kf41 := Hb4.out.frozen 1
      simp only [mC, List.getElem?_toArray, List.getElem?_cons_zero, List.getElem?_cons_succ] at k41
      have HM := Lib.hid (fun W => M r c Ai ni ci W)
      have Q0 : Hid (∀ W', Below W.heap.size W W' → Below w.heap.size w W' ∧ Below w.heap.size wr W' ∧ Blk W' w.heap.size 75 (mC 0 0 (.slice none 0 0)) ∧ Blk W' (w.heap.size + 1) 75 (mC R C0 (.slice A1 m c')) ∧ Blk W' wr.heap.size 75 (mC r c (.slice Ai ni ci)) ∧ W'.ownsRow w.heap.size 5 1 (.slice A1 m c') m (out.map B8)) := fun W' hW' => by
        obtain ⟨a1, a0, a2, a3, a4, a5⟩ := FACTS.out
        exact ⟨below_then a1 hW', a0.trans (hW'.mono a1.size), a2.below hW' a2.lt, a3.below hW' a3.lt, a4.below hW' a4.lt, own_belowL a5 hW'⟩
      obtain ⟨f0, f1, f2⟩ : W.cell? ⟨wr.heap.size, 0, none⟩ = some (.int .i64 r) ∧ W.cell? ⟨wr.heap.size, 1, none⟩ = some (.int .i64 c) ∧ W.cell? ⟨wr.heap.size, 2, none⟩ = some (.slice Ai ni ci) := ⟨FACTS.out.2.2.2.2.1.cell 0, FACTS.out.2.2.2.2.1.cell 1, FACTS.out.2.2.2.2.1.cell 2⟩
      replace hread := Lib.hid (fun W' hW' => hread.out.below (w' := W') hW')
      obtain ⟨mb, hmb⟩ : ∃ mb, mb = Matp.may r c ni := ⟨_, rfl⟩
      have HMay : Hid (mb = true → ∃ R' C' : Nat, r = (R' : Int) ∧ c = (C' : Int) ∧ R' ≤ 255 ∧ C' ≤ 255 ∧ ni = R' * C') := fun h => may_nat (hmb ▸ h)
      rw [← hmb] at HM HP2
      clear hmb FACTS HO Hb4 Hb2 Hc0 Z00
      by_cases hj0 : j = 0
      · have hj0i : ((j : Int) == 0) = true := by rw [beq_iff_eq]; omega
        rw [if_pos hj0] at HW
        rw [HW] at f0 f1 f2
        replace HW := Lib.hid HW
        clear hj0
        go_wp2_with fail
        refine (HM.out _).out.mono ?_; rintro e w1 ⟨rfl, hB1⟩
        rw [← HW.out] at hB1
        clear f0 f1 f2 HM
        obtain ⟨HB1, HBr1, Hb21, Hb41, Hb61, HO1⟩ := Q0.out w1 hB1
        replace HBr1 := Lib.hid HBr1
        clear hB1 Q0
        obtain ⟨f0, f1, f2⟩ : w1.cell? ⟨wr.heap.size, 0, none⟩ = some (.int .i64 r) ∧ w1.cell? ⟨wr.heap.size, 1, none⟩ = some (.int .i64 c) ∧ w1.cell? ⟨wr.heap.size, 2, none⟩ = some (.slice Ai ni ci) := ⟨Hb61.cell 0, Hb61.cell 1, Hb61.cell 2⟩
        obtain ⟨q0, q1, q2⟩ : w1.cell? ⟨w.heap.size + 1, 0, none⟩ = some (.int .i64 R) ∧ w1.cell? ⟨w.heap.size + 1, 1, none⟩ = some (.int .i64 C0) ∧ w1.cell? ⟨w.heap.size + 1, 2, none⟩ = some (.slice A1 m c') := ⟨Hb41.cell 0, Hb41.cell 1, Hb41.cell 2⟩
        have z0 := Hb41.frozen 0
        replace HB1 := Lib.hid HB1; replace Hb21 := Lib.hid Hb21; replace Hb41 := Lib.hid Hb41; replace Hb61 := Lib.hid Hb61; replace HO1 := Lib.hid HO1
        have hcases : mb = false ∨ (mb = true ∧ c ≠ C0) ∨ (mb = true ∧ c = C0 ∧ 255 < (R : Int) + r) ∨ (mb = true ∧ c = C0 ∧ (R : Int) + r ≤ 255) := by
          cases mb
          · exact .inl rfl
          · by_cases h1 : c = C0
            · by_cases h2 : (R : Int) + r ≤ 255
              · exact .inr (.inr (.inr ⟨rfl, h1, h2⟩))
              · exact .inr (.inr (.inl ⟨rfl, h1, by omega⟩))
            · exact .inr (.inl ⟨rfl, h1⟩)
        rcases hcases with h1 | ⟨h1, h2⟩ | ⟨h1, h2, h3⟩ | ⟨h1, h2, h3⟩
        · have HN : Hid (stackGo C0 l 0 [] = none) := by
            rw [← HP.out, HP2.out, if_neg (fun h => by rw [h1] at h; exact absurd h.1 (by decide))]; rfl
          subst h1
          go_wp2_with (refine wpList_store_row rfl 75 _ _ rfl w.heap.size (mC 0 0 (.slice none 0 0)) rfl rfl 75 (mC 0 0 (.slice none 0 0)) Hb21.out info_ms rfl (mC_one _ _ _ _ _) ?_)
          exact bodyPost_ret (results_cell_int rfl _ _ w.heap.size (mC 0 0 (.slice none 0 0)) (.int .i64 13) rfl rfl (run_loadVar_row _ w.heap.size 75 _ (mC 0 0 (.slice none 0 0)) (0, 0) _ (Hb21.out.row _) Tryd.underlying75 rfl info_ms)) rfl (hN.out HN.out _ _ ⟨none, 0, rfl, World.ownsRow_nil _ _ _ 1, below_row HB1.out (Nat.le_refl _) _⟩)
        · have HN : Hid (stackGo C0 l 0 [] = none) := by
            rw [← HP.out, HP2.out, if_neg (fun h => h2 h.2.1)]; rfl
          have hne : (c == C0) = false := by rw [beq_eq_false_iff_ne]; exact h2
          subst h1
          go_wp2_with (refine wpList_store_row rfl 75 _ _ rfl w.heap.size (mC 0 0 (.slice none 0 0)) rfl rfl 75 (mC 0 0 (.slice none 0 0)) Hb21.out info_ms rfl (mC_one _ _ _ _ _) ?_)
          exact bodyPost_ret (results_cell_int rfl _ _ w.heap.size (mC 0 0 (.slice none 0 0)) (.int .i64 13) rfl rfl (run_loadVar_row _ w.heap.size 75 _ (mC 0 0 (.slice none 0 0)) (0, 0) _ (Hb21.out.row _) Tryd.underlying75 rfl info_ms)) rfl (hN.out HN.out _ _ ⟨none, 0, rfl, World.ownsRow_nil _ _ _ 1, below_row HB1.out (Nat.le_refl _) _⟩)
        · have HN : Hid (stackGo C0 l 0 [] = none) := by
            rw [← HP.out, HP2.out, if_neg (fun h => by have := h.2.2; omega)]; rfl
          obtain ⟨rn, cn, hrn, hcn, hr255, hc255, hni2⟩ := HMay.out h1
          subst h1
          subst hrn
          subst h2
          clear hni2
          go_wp2_with (refine wpList_store_row rfl 75 _ _ rfl w.heap.size (mC 0 0 (.slice none 0 0)) rfl rfl 75 (mC 0 0 (.slice none 0 0)) Hb21.out info_ms rfl (mC_one _ _ _ _ _) ?_)
          exact bodyPost_ret (results_cell_int rfl _ _ w.heap.size (mC 0 0 (.slice none 0 0)) (.int .i64 13) rfl rfl (run_loadVar_row _ w.heap.size 75 _ (mC 0 0 (.slice none 0 0)) (0, 0) _ (Hb21.out.row _) Tryd.underlying75 rfl info_ms)) rfl (hN.out HN.out _ _ ⟨none, 0, rfl, World.ownsRow_nil _ _ _ 1, below_row HB1.out (Nat.le_refl _) _⟩)
        · rw [if_pos ⟨h1, h2, h3⟩] at HP2
          obtain ⟨rn, cn, hrn, hcn, hr255, hc255, hni2⟩ := HMay.out h1
          have hnib : ni ≤ rn * 255 := by rw [hni2]; exact Nat.mul_le_mul_left _ hc255
          have HC0 : Hid (0 ≤ C0) := by rw [Hid, ← h2]; omega
          subst h1
          subst hrn
          subst h2
          rw [Int.toNat_natCast] at HP2
          clear hni2 hcn
          have hrd := hread.out w1 HBr1.out
          have hoW := own_setM (j := 0) HO1.out Hb41.out (.int .i64 ((R : Int) + (rn : Int)))
          have hb4W := Hb41.out.set_ 0 (.int .i64 ((R : Int) + (rn : Int)))
          have hb2W := Hb21.out.far (p := ⟨w.heap.size + 1, 0, none⟩) (Nat.ne_of_lt (Nat.lt_succ_self _)) (.int .i64 ((R : Int) + (rn : Int)))
          have hBW := HB1.out.setCell (p := ⟨w.heap.size + 1, 0, none⟩) (Nat.le_succ _) (.int .i64 ((R : Int) + (rn : Int)))
          have hrW := hrd.setCell (p := ⟨w.heap.size + 1, 0, none⟩) (Nat.le_succ _) (.int .i64 ((R : Int) + (rn : Int)))
          replace hoW := Lib.hid hoW; replace hb4W := Lib.hid hb4W; replace hb2W := Lib.hid hb2W; replace hBW := Lib.hid hBW; replace hrW := Lib.hid hrW
          clear hrd
          have hm1 : m + ni ≤ maxLen := by unfold maxLen; omega
          have hm2 : (m + ni) * 1 ≤ 140737488355328 := by omega
          go_wp2_with (at_builtin; refine wpList_append_any _ rfl (.tmp 45) (.tmp 47) 27 rfl w.heap.size 5 i0 (.int .u8 0) 1 1 Tryd.underlying27 hi.out hz0.out hz1.out hz2.out rfl (by omega) A1 m c' _ rfl hoW.out w.heap.size Ai ni ci _ rfl hrW.out (row_one hrW.out) hm1 hm2 hBW.out.size ?_; intro A3 c3 w4 ho4 hg4 _hs4; have HB4 := Lib.hid (below_app hBW.out hg4 hoW.out hBW.out.size); have hb4 := Lib.hid (blk_grown hb4W.out hoW.out hg4); have hb2' := Lib.hid (blk_grown hb2W.out hoW.out hg4); have z2 : w4.cell? ⟨w.heap.size + 1, 2, none⟩ = some (.slice A1 m c') := hb4.out.cell 2; have zf := hb4.out.frozen 2; replace ho4 := Lib.hid ho4; clear hg4 _hs4)
          go_roundw
          case rel =>
            refine ⟨j + 1, c3, R + rn, m + ni, A3, out ++ bs, c, by go_num, by omega, by omega, by omega, fun h => absurd h (by omega), fun _ => ⟨rfl, HC0.out⟩, HB4.out.setCell (p := ⟨w.heap.size + 1, 2, none⟩) (Nat.le_succ _) _, hb2'.out.far (p := ⟨w.heap.size + 1, 2, none⟩) (Nat.ne_of_lt (Nat.lt_succ_self _)) _, ?_, ?_, ?_⟩
            · exact hb4.out.set_ 2 (.slice A3 (m + ni) c3)
            · rw [List.map_append]
              exact own_setM (j := 2) ho4.out hb4.out (.slice A3 (m + ni) c3)
            · exact HP2.out.symm.trans HP.out
          case measure => simp [intOf]; omega
      · have hj0i : ((j : Int) == 0) = false := by rw [beq_eq_false_iff_ne]; omega
        rw [if_neg hj0] at HW
        rw [HW] at f0 f1 f2
        replace HW := Lib.hid HW
        clear hj0 k41 kf41
        go_wp2_with fail
        refine (HM.out _).out.mono ?_; rintro e w1 ⟨rfl, hB1⟩
        rw [← HW.out] at hB1
        clear f0 f1 f2 HM
        obtain ⟨HB1, HBr1, Hb21, Hb41, Hb61, HO1⟩ := Q0.out w1 hB1
        replace HBr1 := Lib.hid HBr1
        clear hB1 Q0
        obtain ⟨f0, f1, f2⟩ : w1.cell? ⟨wr.heap.size, 0, none⟩ = some (.int .i64 r) ∧ w1.cell? ⟨wr.heap.size, 1, none⟩ = some (.int .i64 c) ∧ w1.cell? ⟨wr.heap.size, 2, none⟩ = some (.slice Ai ni ci) := ⟨Hb61.cell 0, Hb61.cell 1, Hb61.cell 2⟩
        obtain ⟨q0, q1, q2⟩ : w1.cell? ⟨w.heap.size + 1, 0, none⟩ = some (.int .i64 R) ∧ w1.cell? ⟨w.heap.size + 1, 1, none⟩ = some (.int .i64 C0) ∧ w1.cell? ⟨w.heap.size + 1, 2, none⟩ = some (.slice A1 m c') := ⟨Hb41.cell 0, Hb41.cell 1, Hb41.cell 2⟩
        have z0 := Hb41.frozen 0
        replace HB1 := Lib.hid HB1; replace Hb21 := Lib.hid Hb21; replace Hb41 := Lib.hid Hb41; replace Hb61 := Lib.hid Hb61; replace HO1 := Lib.hid HO1
        have hcases : mb = false ∨ (mb = true ∧ c ≠ C0) ∨ (mb = true ∧ c = C0 ∧ 255 < (R : Int) + r) ∨ (mb = true ∧ c = C0 ∧ (R : Int) + r ≤ 255) := by
          cases mb
          · exact .inl rfl
          · by_cases h1 : c = C0
            · by_cases h2 : (R : Int) + r ≤ 255
              · exact .inr (.inr (.inr ⟨rfl, h1, h2⟩))
              · exact .inr (.inr (.inl ⟨rfl, h1, by omega⟩))
            · exact .inr (.inl ⟨rfl, h1⟩)
        rcases hcases with h1 | ⟨h1, h2⟩ | ⟨h1, h2, h3⟩ | ⟨h1, h2, h3⟩
        · have HN : Hid (stackGo C0 l 0 [] = none) := by
            rw [← HP.out, HP2.out, if_neg (fun h => by rw [h1] at h; exact absurd h.1 (by decide))]; rfl
          subst h1
          go_wp2_with (refine wpList_store_row rfl 75 _ _ rfl w.heap.size (mC 0 0 (.slice none 0 0)) rfl rfl 75 (mC 0 0 (.slice none 0 0)) Hb21.out info_ms rfl (mC_one _ _ _ _ _) ?_)
          exact bodyPost_ret (results_cell_int rfl _ _ w.heap.size (mC 0 0 (.slice none 0 0)) (.int .i64 13) rfl rfl (run_loadVar_row _ w.heap.size 75 _ (mC 0 0 (.slice none 0 0)) (0, 0) _ (Hb21.out.row _) Tryd.underlying75 rfl info_ms)) rfl (hN.out HN.out _ _ ⟨none, 0, rfl, World.ownsRow_nil _ _ _ 1, below_row HB1.out (Nat.le_refl _) _⟩)
        · have HN : Hid (stackGo C0 l 0 [] = none) := by
            rw [← HP.out, HP2.out, if_neg (fun h => h2 h.2.1)]; rfl
          have hne : (c == C0) = false := by rw [beq_eq_false_iff_ne]; exact h2
          subst h1
          go_wp2_with (refine wpList_store_row rfl 75 _ _ rfl w.heap.size (mC 0 0 (.slice none 0 0)) rfl rfl 75 (mC 0 0 (.slice none 0 0)) Hb21.out info_ms rfl (mC_one _ _ _ _ _) ?_)
          exact bodyPost_ret (results_cell_int rfl _ _ w.heap.size (mC 0 0 (.slice none 0 0)) (.int .i64 13) rfl rfl (run_loadVar_row _ w.heap.size 75 _ (mC 0 0 (.slice none 0 0)) (0, 0) _ (Hb21.out.row _) Tryd.underlying75 rfl info_ms)) rfl (hN.out HN.out _ _ ⟨none, 0, rfl, World.ownsRow_nil _ _ _ 1, below_row HB1.out (Nat.le_refl _) _⟩)
        · have HN : Hid (stackGo C0 l 0 [] = none) := by
            rw [← HP.out, HP2.out, if_neg (fun h => by have := h.2.2; omega)]; rfl
          obtain ⟨rn, cn, hrn, hcn, hr255, hc255, hni2⟩ := HMay.out h1
          subst h1
          subst hrn
          subst h2
          clear hni2
          go_wp2_with (refine wpList_store_row rfl 75 _ _ rfl w.heap.size (mC 0 0 (.slice none 0 0)) rfl rfl 75 (mC 0 0 (.slice none 0 0)) Hb21.out info_ms rfl (mC_one _ _ _ _ _) ?_)
          exact bodyPost_ret (results_cell_int rfl _ _ w.heap.size (mC 0 0 (.slice none 0 0)) (.int .i64 13) rfl rfl (run_loadVar_row _ w.heap.size 75 _ (mC 0 0 (.slice none 0 0)) (0, 0) _ (Hb21.out.row _) Tryd.underlying75 rfl info_ms)) rfl (hN.out HN.out _ _ ⟨none, 0, rfl, World.ownsRow_nil _ _ _ 1, below_row HB1.out (Nat.le_refl _) _⟩)
        · rw [if_pos ⟨h1, h2, h3⟩] at HP2
          obtain ⟨rn, cn, hrn, hcn, hr255, hc255, hni2⟩ := HMay.out h1
          have hnib : ni ≤ rn * 255 := by rw [hni2]; exact Nat.mul_le_mul_left _ hc255
          have HC0 : Hid (0 ≤ C0) := by rw [Hid, ← h2]; omega
          subst h1
          subst hrn
          subst h2
          rw [Int.toNat_natCast] at HP2
          clear hni2 hcn
          have hrd := hread.out w1 HBr1.out
          have hoW := own_setM (j := 0) HO1.out Hb41.out (.int .i64 ((R : Int) + (rn : Int)))
          have hb4W := Hb41.out.set_ 0 (.int .i64 ((R : Int) + (rn : Int)))
          have hb2W := Hb21.out.far (p := ⟨w.heap.size + 1, 0, none⟩) (Nat.ne_of_lt (Nat.lt_succ_self _)) (.int .i64 ((R : Int) + (rn : Int)))
          have hBW := HB1.out.setCell (p := ⟨w.heap.size + 1, 0, none⟩) (Nat.le_succ _) (.int .i64 ((R : Int) + (rn : Int)))
          have hrW := hrd.setCell (p := ⟨w.heap.size + 1, 0, none⟩) (Nat.le_succ _) (.int .i64 ((R : Int) + (rn : Int)))
          replace hoW := Lib.hid hoW; replace hb4W := Lib.hid hb4W; replace hb2W := Lib.hid hb2W; replace hBW := Lib.hid hBW; replace hrW := Lib.hid hrW
          clear hrd
          have hm1 : m + ni ≤ maxLen := by unfold maxLen; omega
          have hm2 : (m + ni) * 1 ≤ 140737488355328 := by omega
          go_wp2_with (at_builtin; refine wpList_append_any _ rfl (.tmp 45) (.tmp 47) 27 rfl w.heap.size 5 i0 (.int .u8 0) 1 1 Tryd.underlying27 hi.out hz0.out hz1.out hz2.out rfl (by omega) A1 m c' _ rfl hoW.out w.heap.size Ai ni ci _ rfl hrW.out (row_one hrW.out) hm1 hm2 hBW.out.size ?_; intro A3 c3 w4 ho4 hg4 _hs4; have HB4 := Lib.hid (below_app hBW.out hg4 hoW.out hBW.out.size); have hb4 := Lib.hid (blk_grown hb4W.out hoW.out hg4); have hb2' := Lib.hid (blk_grown hb2W.out hoW.out hg4); have z2 : w4.cell? ⟨w.heap.size + 1, 2, none⟩ = some (.slice A1 m c') := hb4.out.cell 2; have zf := hb4.out.frozen 2; replace ho4 := Lib.hid ho4; clear hg4 _hs4)
          go_roundw
          case rel =>
            refine ⟨j + 1, c3, R + rn, m + ni, A3, out ++ bs, c, by go_num, by omega, by omega, by omega, fun h => absurd h (by omega), fun _ => ⟨rfl, HC0.out⟩, HB4.out.setCell (p := ⟨w.heap.size + 1, 2, none⟩) (Nat.le_succ _) _, hb2'.out.far (p := ⟨w.heap.size + 1, 2, none⟩) (Nat.ne_of_lt (Nat.lt_succ_self _)) _, ?_, ?_, ?_⟩
            · exact hb4.out.set_ 2 (.slice A3 (m + ni) c3)
            · rw [List.map_append]
              exact own_setM (j := 2) ho4.out hb4.out (.slice A3 (m + ni) c3)
            · exact HP2.out.symm.trans HP.out
          case measure => simp [intOf]; omega
    · have hjn2 : j = n := by omega
      have HS : Hid (stackGo C0 l 0 [] = some (R, out)) := by
        rw [← HP.out, List.drop_of_length_le (by rw [L.out]; omega)]; rfl
      have HC : Hid (cv = C0 ∧ 0 ≤ C0) := by
        rcases Nat.eq_zero_or_pos j with h0 | h0
        · have h1 := ZN.out (by rw [L.out]; omega)
          rw [Hid, h1]
          exact ⟨Hc0.out h0, by omega⟩
        · exact Hc1.out h0
      obtain ⟨Cn, HCn⟩ : ∃ Cn : Nat, Hid (C0 = (Cn : Int)) := ⟨C0.toNat, by have := HC.out.2; unfold Hid; omega⟩
      rw [HC.out.1, HCn.out] at Hb4
      have hge : (n : Int) ≤ j := by omega
      have hol : Hid (out.length = m) := by have h := HO.out.1; unfold Hid; simpa using h
      rw [← hol.out] at HO Hb4
      clear hjn2
      go_wp2_with (first
        | (refine wpList_load_row rfl 75 _ rfl (w.heap.size + 1) rfl 75 (mC R Cn (.slice A1 out.length c')) (0, 0) _ Hb4.out Tryd.underlying75 rfl info_ms ?_)
        | (refine wpList_store_row rfl 75 _ _ rfl w.heap.size (mC R Cn (.slice A1 out.length c')) rfl rfl 75 (mC 0 0 (.slice none 0 0)) Hb2.out info_ms rfl (mC_one _ _ _ _ _) ?_))
      exact bodyPost_ret (results_cell_int rfl _ _ w.heap.size (mC R Cn (.slice A1 out.length c')) (.int .i64 0) rfl rfl (run_loadVar_row _ w.heap.size 75 _ (mC R Cn (.slice A1 out.length c')) (0, 0) _ (Hb2.out.row _) Tryd.underlying75 rfl info_ms)) rfl (hS.out R out HS.out Cn HCn.out _ _ ⟨A1, c', rfl, own_setRowM HO.out Hb2.out _, below_row HB.out (Nat.le_refl _) _⟩)
end Go.Proofs.YtjbedcgacnnanaaDoor

namespace Go.Proofs.YtjbedcgacnnanaaDoor
set_option linter.unusedSimpArgs false
set_option linter.unusedVariables false
open Go.RowKit

set_option maxRecDepth 100000 in
set_option maxHeartbeats 8000000 in
theorem refStack_any (A : Option Addr) (n k : Nat) (l : List (Int × Int × List UInt8)) (w : World) (hn : n ≤ 20) (h : MatsR w w.heap.size A n l) (P0 : Ending → World → Prop)
    (hS : ∀ R out, stackGo (stackC l) l 0 [] = some (R, out) → ∀ C : Nat, stackC l = C → ∀ e w', MRet w R C out 0 e w' → P0 e w') (hN : stackGo (stackC l) l 0 [] = none → ∀ e w', MRet w 0 0 [] 13 e w' → P0 e w') :
    Calls Tryd.prog 51 #[.slice A n k] w P0 := by
  have hl : l.length = n := h.1
  have hz := (zero_of_info info_m).1
  obtain ⟨i0, hi, hz0, hz1, hz2⟩ := info_parts info_u8
  replace hi := Lib.hid hi; replace hz0 := Lib.hid hz0; replace hz1 := Lib.hid hz1; replace hz2 := Lib.hid hz2
  replace hS := Lib.hid hS; replace hN := Lib.hid hN
  rcases Nat.eq_zero_or_pos n with hn0 | hn0
  · have hS2 := Lib.hid (hS.out 0 [] (by rw [List.eq_nil_of_length_eq_zero (hl.trans hn0)]; rfl) 0 (by rw [List.eq_nil_of_length_eq_zero (hl.trans hn0)]; rfl))
    subst hn0
    clear h hl hS hN
    go_enter Tryd.func51, Tryd.ntmps51
    go_wp2_with fail
    exact bodyPost_ret (v := .tuple #[.agg (mC 0 0 (.slice none 0 0)), .int .i64 0]) (by simp [results, Tryd.results51, go_sem, mC]) rfl (hS2.out _ _ ⟨none, 0, rfl, World.ownsRow_nil _ _ _ 1, by
      repeat (with_reducible refine Below.setCell ?_ (by simp) _)
      exact (Below.refl _ _).alloc (Nat.le_refl _) _⟩)
  have L := Lib.hid hl
  have H := Lib.hid h
  have M := fun r c A n k W => Lib.hid (refMay_any r c A n k W)
  unfold mC at M
  have Z0 := Lib.hid (stackC_zero l)
  obtain ⟨C0, hC0⟩ : ∃ C0, C0 = stackC l := ⟨_, rfl⟩
  rw [← hC0] at hS hN Z0
  obtain ⟨ad, rfl, adb, Ai, ni, ci, e0, e1, e2, hnc, hread⟩ := h.row 0 (by omega)
  have Z1 : Hid (C0 = l[0].2.1) := Z0.out (by omega)
  rw [← Z1.out] at e1
  simp only [Nat.zero_mul] at e1
  have e1' : w.cell? ⟨ad.block, ad.off + 1, none⟩ = some (.int .i64 C0) := by
    rw [← e1]; congr 1
  have hne : ((n : Int) == 0) = false := by rw [beq_eq_false_iff_ne]; omega
  have hn0' : (0 : Int) < n := by omega
  clear h hl hC0 e0 e1 e2 hnc hread Z0 Z1
  go_enter Tryd.func51, Tryd.ntmps51
  go_wp2_with fail
  have hb2 : Blk ((w.alloc (.cells #[.int .i64 0, .int .i64 0, .slice none 0 0] 75)).alloc (.cells #[.int .i64 0, .int .i64 C0, .slice none 0 0] 75)) w.heap.size 75 (mC 0 0 (.slice none 0 0)) := (Blk.new w _ _).alloc _
  have hb4 : Blk ((w.alloc (.cells #[.int .i64 0, .int .i64 0, .slice none 0 0] 75)).alloc (.cells #[.int .i64 0, .int .i64 C0, .slice none 0 0] 75)) (w.heap.size + 1) 75 (mC (0 : Nat) C0 (.slice none 0 0)) := by
    have h := Blk.new (w.alloc (.cells #[.int .i64 0, .int .i64 0, .slice none 0 0] 75)) 75 (mC 0 C0 (.slice none 0 0))
    simpa [mC] using h
  have hB := ((Below.refl w.heap.size w).alloc (Nat.le_refl _) (.cells #[.int .i64 0, .int .i64 0, .slice none 0 0] 75)).alloc (by simp) (.cells #[.int .i64 0, .int .i64 C0, .slice none 0 0] 75)
  generalize (w.alloc (.cells #[.int .i64 0, .int .i64 0, .slice none 0 0] 75)).alloc (.cells #[.int .i64 0, .int .i64 C0, .slice none 0 0] 75) = w3 at *
  replace hb2 := Lib.hid hb2; replace hb4 := Lib.hid hb4; replace hB := Lib.hid hB
  clear e1' hne hn0' adb
  go_loopw [5] (fun v5 wr => ∃ (j c' R m : Nat) (A1 : Option Addr) (out : List UInt8), v5 = .int .i64 j ∧ j ≤ n ∧ R ≤ 255 ∧ m ≤ R * 255 ∧ Hid (0 < j → 0 ≤ C0) ∧ Hid (Below w.heap.size w wr) ∧ Hid (Blk wr w.heap.size 75 (mC 0 0 (.slice none 0 0))) ∧ Hid (Blk wr (w.heap.size + 1) 75 (mC R C0 (.slice A1 m c'))) ∧ Hid (wr.ownsRow w.heap.size 5 1 (.slice A1 m c') m (out.map B8)) ∧ Hid (stackGo C0 (l.drop j) R out = stackGo C0 l 0 [])) (fun v5 _ => n - (intOf v5).toNat)
  case atStart => exact ⟨0, 0, 0, 0, none, [], rfl, by omega, by omega, by omega, fun h => absurd h (by omega), hB, hb2, hb4, World.ownsRow_nil _ _ _ 1, rfl⟩
  case round =>
    obtain ⟨j, c', R, m, A1, out, rfl, hjn, hR, hmR, Hc1, HB, Hb2, Hb4, HO, HP⟩ := hrel
    by_cases hlt : j < n
    · have hlt' : (j : Int) < n := by omega
      have hjx : j < l.length := by rw [L.out]; exact hlt
      obtain ⟨ad', hA', adb, Ai, ni, ci, e0, e1, e2, hnc, hread⟩ := (H.out.below HB.out).row j hjx
      injection hA' with hA'
      subst hA'
      have HP2 := Lib.hid (stackGo_step C0 l j hjx R out)
      have hni : Hid (l[j].2.2.length = ni) := hread.len
      replace hread := Lib.hid hread
      rw [hni.out] at HP2
      generalize l[j].1 = r at *
      generalize l[j].2.1 = c at *
      generalize l[j].2.2 = bs at *
      have hgw : w.heap.size + 1 < wr.heap.size := Hb4.out.lt
      have hgw0 : w.heap.size < wr.heap.size := by omega
      have HM := Lib.hid (fun W => M r c Ai ni ci W)
      obtain ⟨mb, hmb⟩ : ∃ mb, mb = Matp.may r c ni := ⟨_, rfl⟩
      have HMay : Hid (mb = true → ∃ R' C' : Nat, r = (R' : Int) ∧ c = (C' : Int) ∧ R' ≤ 255 ∧ C' ≤ 255 ∧ ni = R' * C') := fun h => may_nat (hmb ▸ h)
      rw [← hmb] at HM HP2
      clear hmb
      have KEEP : Hid (∀ W, Below wr.heap.size wr W → Below wr.heap.size wr W ∧ W.cell? (ad.add (j * 3)) = some (.int .i64 r) ∧ W.cell? ⟨(ad.add (j * 3)).block, (ad.add (j * 3)).off + 1, none⟩ = some (.int .i64 c) ∧ W.cell? ⟨(ad.add (j * 3)).block, (ad.add (j * 3)).off + 2, none⟩ = some (.slice Ai ni ci) ∧ W.cell? ⟨w.heap.size + 1, 0, none⟩ = some (.int .i64 R) ∧ W.cell? ⟨w.heap.size + 1, 1, none⟩ = some (.int .i64 C0)) := fun W hW =>
        ⟨hW, (hW.cell (p := ad.add (j * 3)) (by rw [block_of_add]; omega)).trans e0, (hW.cell (p := ⟨(ad.add (j * 3)).block, (ad.add (j * 3)).off + 1, none⟩) (by show (ad.add (j * 3)).block < _; rw [block_of_add]; omega)).trans e1, (hW.cell (p := ⟨(ad.add (j * 3)).block, (ad.add (j * 3)).off + 2, none⟩) (by show (ad.add (j * 3)).block < _; rw [block_of_add]; omega)).trans e2, (Hb4.out.below hW Hb4.out.lt).cell 0, (Hb4.out.below hW Hb4.out.lt).cell 1⟩
      have E2 : Hid (∀ W, Below w.heap.size w W → W.cell? ⟨(ad.add (j * 3)).block, (ad.add (j * 3)).off + 2, none⟩ = some (.slice Ai ni ci)) := fun W hW =>
        (hW.cell (p := ⟨(ad.add (j * 3)).block, (ad.add (j * 3)).off + 2, none⟩) (by show (ad.add (j * 3)).block < _; rw [block_of_add]; omega)).trans ((HB.out.cell (p := ⟨(ad.add (j * 3)).block, (ad.add (j * 3)).off + 2, none⟩) (by show (ad.add (j * 3)).block < _; rw [block_of_add]; omega)).symm.trans e2)
      have hS0 := KEEP.out wr (Below.refl _ _)
      have hcases : mb = false ∨ (mb = true ∧ c ≠ C0) ∨ (mb = true ∧ c = C0 ∧ 255 < (R : Int) + r) ∨ (mb = true ∧ c = C0 ∧ (R : Int) + r ≤ 255) := by
        cases mb
        · exact .inl rfl
        · by_cases h1 : c = C0
          · by_cases h2 : (R : Int) + r ≤ 255
            · exact .inr (.inr (.inr ⟨rfl, h1, h2⟩))
            · exact .inr (.inr (.inl ⟨rfl, h1, by omega⟩))
          · exact .inr (.inl ⟨rfl, h1⟩)
      rcases hcases with h1 | ⟨h1, h2⟩ | ⟨h1, h2, h3⟩ | ⟨h1, h2, h3⟩
      · have HN : Hid (stackGo C0 l 0 [] = none) := by
          rw [← HP.out, HP2.out, if_neg (fun h => by rw [h1] at h; exact absurd h.1 (by decide))]; rfl
        subst h1
        go_wp2_with fail
        refine region_E 27 (fun W => Below wr.heap.size wr W ∧ W.cell? (ad.add (j * 3)) = some (.int .i64 r) ∧ W.cell? ⟨(ad.add (j * 3)).block, (ad.add (j * 3)).off + 1, none⟩ = some (.int .i64 c) ∧ W.cell? ⟨(ad.add (j * 3)).block, (ad.add (j * 3)).off + 2, none⟩ = some (.slice Ai ni ci) ∧ W.cell? ⟨w.heap.size + 1, 0, none⟩ = some (.int .i64 R) ∧ W.cell? ⟨w.heap.size + 1, 1, none⟩ = some (.int .i64 C0)) (by kernel_rfl) (KEEP.out _ (Below.refl _ _).drew) (fun hHeld => ?_)
        refine took 0 (v := ?_) rfl (by kernel_rfl) (by kernel_rfl) (by kernel_rfl) (by kernel_rfl) (fun _ _ _ h => h) (by rfl) (by assumption) ?_ ?_
        rotate_left
        · (intro W hSw; (try dsimp only at hSw); go_simp; first | done | with_reducible rfl)
        try simp only [Act.put, List.setIfInBounds_toArray, List.set_cons_zero, List.set_cons_succ]
        refine took 1 (v := ?_) rfl (by kernel_rfl) (by kernel_rfl) (by kernel_rfl) (by kernel_rfl) (fun _ _ _ h => h) (by rfl) (by assumption) ?_ ?_
        rotate_left
        · (intro W hSw; (try dsimp only at hSw); go_simp; first | done | with_reducible rfl)
        try simp only [Act.put, List.setIfInBounds_toArray, List.set_cons_zero, List.set_cons_succ]
        refine took 2 (v := ?_) rfl (by kernel_rfl) (by kernel_rfl) (by kernel_rfl) (by kernel_rfl) (fun _ _ _ h => h) (by rfl) (by assumption) ?_ ?_
        rotate_left
        · (intro W hSw; (try dsimp only at hSw); go_simp; first | done | with_reducible rfl)
        try simp only [Act.put, List.setIfInBounds_toArray, List.set_cons_zero, List.set_cons_succ]
        refine took 3 (v := ?_) rfl (by kernel_rfl) (by kernel_rfl) (by kernel_rfl) (by kernel_rfl) (fun _ _ _ h => h) (by rfl) (by assumption) ?_ ?_
        rotate_left
        · (intro W hSw; (try dsimp only at hSw); go_simp; first | done | with_reducible rfl)
        try simp only [Act.put, List.setIfInBounds_toArray, List.set_cons_zero, List.set_cons_succ]
        refine carried 4 rfl (by kernel_rfl) (by rfl) (fun K hK => ?_)
        go_simp
        (go_at_call 70; ((with_reducible refine (HM.out _).out.mono ?_); rintro e w1 ⟨rfl, hB1⟩; have hS1 := below_then (Below.refl wr.heap.size wr).drew hB1))
        refine hK.out _ _ (KEEP.out _ hS1) (fun hHeld => ?_)
        clear hK K
        try simp only [Act.put, List.setIfInBounds_toArray, List.set_cons_zero, List.set_cons_succ]
        refine took 5 (v := ?_) rfl (by kernel_rfl) (by kernel_rfl) (by kernel_rfl) (by kernel_rfl) (fun _ _ _ h => h) (by rfl) (by assumption) ?_ ?_
        rotate_left
        · (intro W hSw; (try dsimp only at hSw); go_simp; first | done | with_reducible rfl)
        try simp only [Act.put, List.setIfInBounds_toArray, List.set_cons_zero, List.set_cons_succ]
        refine took 6 (v := ?_) rfl (by kernel_rfl) (by kernel_rfl) (by kernel_rfl) (by kernel_rfl) (fun _ _ _ h => h) (by rfl) (by assumption) ?_ ?_
        rotate_left
        · (intro W hSw; (try dsimp only at hSw); go_simp; first | done | with_reducible rfl)
        try simp only [Act.put, List.setIfInBounds_toArray, List.set_cons_zero, List.set_cons_succ]
        refine passed 7 rfl (by kernel_rfl) (by kernel_rfl) (by kernel_rfl) (by kernel_rfl) (fun _ _ _ h => h) (by rfl) (by assumption) ?_
        try simp only [Act.put, List.setIfInBounds_toArray, List.set_cons_zero, List.set_cons_succ]
        refine passed 8 rfl (by kernel_rfl) (by kernel_rfl) (by kernel_rfl) (by kernel_rfl) (fun _ _ _ h => h) (by rfl) (by assumption) ?_
        try simp only [Act.put, List.setIfInBounds_toArray, List.set_cons_zero, List.set_cons_succ]
        refine passed 9 rfl (by kernel_rfl) (by kernel_rfl) (by kernel_rfl) (by kernel_rfl) (fun _ _ _ h => h) (by rfl) (by assumption) ?_
        try simp only [Act.put, List.setIfInBounds_toArray, List.set_cons_zero, List.set_cons_succ]
        refine passed 10 rfl (by kernel_rfl) (by kernel_rfl) (by kernel_rfl) (by kernel_rfl) (fun _ _ _ h => h) (by rfl) (by assumption) ?_
        try simp only [Act.put, List.setIfInBounds_toArray, List.set_cons_zero, List.set_cons_succ]
        refine passed 11 rfl (by kernel_rfl) (by kernel_rfl) (by kernel_rfl) (by kernel_rfl) (fun _ _ _ h => h) (by rfl) (by assumption) ?_
        try simp only [Act.put, List.setIfInBounds_toArray, List.set_cons_zero, List.set_cons_succ]
        refine passed 12 rfl (by kernel_rfl) (by kernel_rfl) (by kernel_rfl) (by kernel_rfl) (fun _ _ _ h => h) (by rfl) (by assumption) ?_
        try simp only [Act.put, List.setIfInBounds_toArray, List.set_cons_zero, List.set_cons_succ]
        refine passed 13 rfl (by kernel_rfl) (by kernel_rfl) (by kernel_rfl) (by kernel_rfl) (fun _ _ _ h => h) (by rfl) (by assumption) ?_
        try simp only [Act.put, List.setIfInBounds_toArray, List.set_cons_zero, List.set_cons_succ]
        refine passed 14 rfl (by kernel_rfl) (by kernel_rfl) (by kernel_rfl) (by kernel_rfl) (fun _ _ _ h => h) (by rfl) (by assumption) ?_
        try simp only [Act.put, List.setIfInBounds_toArray, List.set_cons_zero, List.set_cons_succ]
        refine took 15 (v := ?_) rfl (by kernel_rfl) (by kernel_rfl) (by kernel_rfl) (by kernel_rfl) (fun _ _ _ h => h) (by rfl) (by assumption) ?_ ?_
        rotate_left
        · (intro W hSw; (try dsimp only at hSw); go_simp; first | done | with_reducible rfl)
        try simp only [Act.put, List.setIfInBounds_toArray, List.set_cons_zero, List.set_cons_succ]
        refine took 16 (v := ?_) rfl (by kernel_rfl) (by kernel_rfl) (by kernel_rfl) (by kernel_rfl) (fun _ _ _ h => h) (by rfl) (by assumption) ?_ ?_
        rotate_left
        · (intro W hSw; (try dsimp only at hSw); go_simp; first | done | with_reducible rfl)
        try simp only [Act.put, List.setIfInBounds_toArray, List.set_cons_zero, List.set_cons_succ]
        refine passed 17 rfl (by kernel_rfl) (by kernel_rfl) (by kernel_rfl) (by kernel_rfl) (fun _ _ _ h => h) (by rfl) (by assumption) ?_
        try simp only [Act.put, List.setIfInBounds_toArray, List.set_cons_zero, List.set_cons_succ]
        refine passed 18 rfl (by kernel_rfl) (by kernel_rfl) (by kernel_rfl) (by kernel_rfl) (fun _ _ _ h => h) (by rfl) (by assumption) ?_
        try simp only [Act.put, List.setIfInBounds_toArray, List.set_cons_zero, List.set_cons_succ]
        refine passed 19 rfl (by kernel_rfl) (by kernel_rfl) (by kernel_rfl) (by kernel_rfl) (fun _ _ _ h => h) (by rfl) (by assumption) ?_
        try simp only [Act.put, List.setIfInBounds_toArray, List.set_cons_zero, List.set_cons_succ]
        refine passed 20 rfl (by kernel_rfl) (by kernel_rfl) (by kernel_rfl) (by kernel_rfl) (fun _ _ _ h => h) (by rfl) (by assumption) ?_
        try simp only [Act.put, List.setIfInBounds_toArray, List.set_cons_zero, List.set_cons_succ]
        refine passed 21 rfl (by kernel_rfl) (by kernel_rfl) (by kernel_rfl) (by kernel_rfl) (fun _ _ _ h => h) (by rfl) (by assumption) ?_
        try simp only [Act.put, List.setIfInBounds_toArray, List.set_cons_zero, List.set_cons_succ]
        refine passed 22 rfl (by kernel_rfl) (by kernel_rfl) (by kernel_rfl) (by kernel_rfl) (fun _ _ _ h => h) (by rfl) (by assumption) ?_
        try simp only [Act.put, List.setIfInBounds_toArray, List.set_cons_zero, List.set_cons_succ]
        refine passed 23 rfl (by kernel_rfl) (by kernel_rfl) (by kernel_rfl) (by kernel_rfl) (fun _ _ _ h => h) (by rfl) (by assumption) ?_
        try simp only [Act.put, List.setIfInBounds_toArray, List.set_cons_zero, List.set_cons_succ]
        refine passed 24 rfl (by kernel_rfl) (by kernel_rfl) (by kernel_rfl) (by kernel_rfl) (fun _ _ _ h => h) (by rfl) (by assumption) ?_
        try simp only [Act.put, List.setIfInBounds_toArray, List.set_cons_zero, List.set_cons_succ]
        refine passed 25 rfl (by kernel_rfl) (by kernel_rfl) (by kernel_rfl) (by kernel_rfl) (fun _ _ _ h => h) (by rfl) (by assumption) ?_
        try simp only [Act.put, List.setIfInBounds_toArray, List.set_cons_zero, List.set_cons_succ]
        refine took 26 (v := ?_) rfl (by kernel_rfl) (by kernel_rfl) (by kernel_rfl) (by kernel_rfl) (fun _ _ _ h => h) (by rfl) (by assumption) ?_ ?_
        rotate_left
        · (intro W hSw; (try dsimp only at hSw); go_simp; first | done | with_reducible rfl)
        try simp only [Act.put, List.setIfInBounds_toArray, List.set_cons_zero, List.set_cons_succ]
        refine allDone (by kernel_rfl) ?_ _
        have Hb21 := Lib.hid (Hb2.out.below hS1 Hb2.out.lt)
        have HB1 := Lib.hid (below_then HB.out hS1)
        clear hHeld hB1 hS1 hS0
        go_wp2_with (refine wpList_store_row rfl 75 _ _ rfl w.heap.size (mC 0 0 (.slice none 0 0)) rfl rfl 75 (mC 0 0 (.slice none 0 0)) Hb21.out info_ms rfl (mC_one _ _ _ _ _) ?_)
        exact bodyPost_ret (results_cell_int rfl _ _ w.heap.size (mC 0 0 (.slice none 0 0)) (.int .i64 13) rfl rfl (run_loadVar_row _ w.heap.size 75 _ (mC 0 0 (.slice none 0 0)) (0, 0) _ (Hb21.out.row _) Tryd.underlying75 rfl info_ms)) rfl (hN.out HN.out _ _ ⟨none, 0, rfl, World.ownsRow_nil _ _ _ 1, below_row HB1.out (Nat.le_refl _) _⟩)
      · have HN : Hid (stackGo C0 l 0 [] = none) := by
          rw [← HP.out, HP2.out, if_neg (fun h => h2 h.2.1)]; rfl
        have hne : (c == C0) = false := by rw [beq_eq_false_iff_ne]; exact h2
        have hne2 : (c != C0) = true := by unfold bne; rw [hne]; rfl
        subst h1
        go_wp2_with fail
        refine region_E 27 (fun W => Below wr.heap.size wr W ∧ W.cell? (ad.add (j * 3)) = some (.int .i64 r) ∧ W.cell? ⟨(ad.add (j * 3)).block, (ad.add (j * 3)).off + 1, none⟩ = some (.int .i64 c) ∧ W.cell? ⟨(ad.add (j * 3)).block, (ad.add (j * 3)).off + 2, none⟩ = some (.slice Ai ni ci) ∧ W.cell? ⟨w.heap.size + 1, 0, none⟩ = some (.int .i64 R) ∧ W.cell? ⟨w.heap.size + 1, 1, none⟩ = some (.int .i64 C0)) (by kernel_rfl) (KEEP.out _ (Below.refl _ _).drew) (fun hHeld => ?_)
        refine took 0 (v := ?_) rfl (by kernel_rfl) (by kernel_rfl) (by kernel_rfl) (by kernel_rfl) (fun _ _ _ h => h) (by rfl) (by assumption) ?_ ?_
        rotate_left
        · (intro W hSw; (try dsimp only at hSw); go_simp; first | done | with_reducible rfl)
        try simp only [Act.put, List.setIfInBounds_toArray, List.set_cons_zero, List.set_cons_succ]
        refine took 1 (v := ?_) rfl (by kernel_rfl) (by kernel_rfl) (by kernel_rfl) (by kernel_rfl) (fun _ _ _ h => h) (by rfl) (by assumption) ?_ ?_
        rotate_left
        · (intro W hSw; (try dsimp only at hSw); go_simp; first | done | with_reducible rfl)
        try simp only [Act.put, List.setIfInBounds_toArray, List.set_cons_zero, List.set_cons_succ]
        refine took 2 (v := ?_) rfl (by kernel_rfl) (by kernel_rfl) (by kernel_rfl) (by kernel_rfl) (fun _ _ _ h => h) (by rfl) (by assumption) ?_ ?_
        rotate_left
        · (intro W hSw; (try dsimp only at hSw); go_simp; first | done | with_reducible rfl)
        try simp only [Act.put, List.setIfInBounds_toArray, List.set_cons_zero, List.set_cons_succ]
        refine took 3 (v := ?_) rfl (by kernel_rfl) (by kernel_rfl) (by kernel_rfl) (by kernel_rfl) (fun _ _ _ h => h) (by rfl) (by assumption) ?_ ?_
        rotate_left
        · (intro W hSw; (try dsimp only at hSw); go_simp; first | done | with_reducible rfl)
        try simp only [Act.put, List.setIfInBounds_toArray, List.set_cons_zero, List.set_cons_succ]
        refine carried 4 rfl (by kernel_rfl) (by rfl) (fun K hK => ?_)
        go_simp
        (go_at_call 70; ((with_reducible refine (HM.out _).out.mono ?_); rintro e w1 ⟨rfl, hB1⟩; have hS1 := below_then (Below.refl wr.heap.size wr).drew hB1))
        refine hK.out _ _ (KEEP.out _ hS1) (fun hHeld => ?_)
        clear hK K
        try simp only [Act.put, List.setIfInBounds_toArray, List.set_cons_zero, List.set_cons_succ]
        refine took 5 (v := ?_) rfl (by kernel_rfl) (by kernel_rfl) (by kernel_rfl) (by kernel_rfl) (fun _ _ _ h => h) (by rfl) (by assumption) ?_ ?_
        rotate_left
        · (intro W hSw; (try dsimp only at hSw); go_simp; first | done | with_reducible rfl)
        try simp only [Act.put, List.setIfInBounds_toArray, List.set_cons_zero, List.set_cons_succ]
        refine took 6 (v := ?_) rfl (by kernel_rfl) (by kernel_rfl) (by kernel_rfl) (by kernel_rfl) (fun _ _ _ h => h) (by rfl) (by assumption) ?_ ?_
        rotate_left
        · (intro W hSw; (try dsimp only at hSw); go_simp; first | done | with_reducible rfl)
        try simp only [Act.put, List.setIfInBounds_toArray, List.set_cons_zero, List.set_cons_succ]
        refine took 7 (v := ?_) rfl (by kernel_rfl) (by kernel_rfl) (by kernel_rfl) (by kernel_rfl) (fun _ _ _ h => h) (by rfl) (by assumption) ?_ ?_
        rotate_left
        · (intro W hSw; (try dsimp only at hSw); go_simp; first | done | with_reducible rfl)
        try simp only [Act.put, List.setIfInBounds_toArray, List.set_cons_zero, List.set_cons_succ]
        refine took 8 (v := ?_) rfl (by kernel_rfl) (by kernel_rfl) (by kernel_rfl) (by kernel_rfl) (fun _ _ _ h => h) (by rfl) (by assumption) ?_ ?_
        rotate_left
        · (intro W hSw; (try dsimp only at hSw); go_simp; first | done | with_reducible rfl)
        try simp only [Act.put, List.setIfInBounds_toArray, List.set_cons_zero, List.set_cons_succ]
        refine took 9 (v := ?_) rfl (by kernel_rfl) (by kernel_rfl) (by kernel_rfl) (by kernel_rfl) (fun _ _ _ h => h) (by rfl) (by assumption) ?_ ?_
        rotate_left
        · (intro W hSw; (try dsimp only at hSw); go_simp; first | done | with_reducible rfl)
        try simp only [Act.put, List.setIfInBounds_toArray, List.set_cons_zero, List.set_cons_succ]
        refine took 10 (v := ?_) rfl (by kernel_rfl) (by kernel_rfl) (by kernel_rfl) (by kernel_rfl) (fun _ _ _ h => h) (by rfl) (by assumption) ?_ ?_
        rotate_left
        · (intro W hSw; (try dsimp only at hSw); go_simp; first | done | with_reducible rfl)
        try simp only [Act.put, List.setIfInBounds_toArray, List.set_cons_zero, List.set_cons_succ]
        refine took 11 (v := ?_) rfl (by kernel_rfl) (by kernel_rfl) (by kernel_rfl) (by kernel_rfl) (fun _ _ _ h => h) (by rfl) (by assumption) ?_ ?_
        rotate_left
        · (intro W hSw; (try dsimp only at hSw); go_simp; first | done | with_reducible rfl)
        try simp only [Act.put, List.setIfInBounds_toArray, List.set_cons_zero, List.set_cons_succ]
        refine took 12 (v := ?_) rfl (by kernel_rfl) (by kernel_rfl) (by kernel_rfl) (by kernel_rfl) (fun _ _ _ h => h) (by rfl) (by assumption) ?_ ?_
        rotate_left
        · (intro W hSw; (try dsimp only at hSw); go_simp; first | done | with_reducible rfl)
        try simp only [Act.put, List.setIfInBounds_toArray, List.set_cons_zero, List.set_cons_succ]
        refine took 13 (v := ?_) rfl (by kernel_rfl) (by kernel_rfl) (by kernel_rfl) (by kernel_rfl) (fun _ _ _ h => h) (by rfl) (by assumption) ?_ ?_
        rotate_left
        · (intro W hSw; (try dsimp only at hSw); go_simp; first | done | with_reducible rfl)
        try simp only [Act.put, List.setIfInBounds_toArray, List.set_cons_zero, List.set_cons_succ]
        refine took 14 (v := ?_) rfl (by kernel_rfl) (by kernel_rfl) (by kernel_rfl) (by kernel_rfl) (fun _ _ _ h => h) (by rfl) (by assumption) ?_ ?_
        rotate_left
        · (intro W hSw; (try dsimp only at hSw); go_simp; first | done | with_reducible rfl)
        try simp only [Act.put, List.setIfInBounds_toArray, List.set_cons_zero, List.set_cons_succ]
        refine took 15 (v := ?_) rfl (by kernel_rfl) (by kernel_rfl) (by kernel_rfl) (by kernel_rfl) (fun _ _ _ h => h) (by rfl) (by assumption) ?_ ?_
        rotate_left
        · (intro W hSw; (try dsimp only at hSw); go_simp; first | done | with_reducible rfl)
        try simp only [Act.put, List.setIfInBounds_toArray, List.set_cons_zero, List.set_cons_succ]
        refine took 16 (v := ?_) rfl (by kernel_rfl) (by kernel_rfl) (by kernel_rfl) (by kernel_rfl) (fun _ _ _ h => h) (by rfl) (by assumption) ?_ ?_
        rotate_left
        · (intro W hSw; (try dsimp only at hSw); go_simp; first | done | with_reducible rfl)
        try simp only [Act.put, List.setIfInBounds_toArray, List.set_cons_zero, List.set_cons_succ]
        refine passed 17 rfl (by kernel_rfl) (by kernel_rfl) (by kernel_rfl) (by kernel_rfl) (fun _ _ _ h => h) (by rfl) (by assumption) ?_
        try simp only [Act.put, List.setIfInBounds_toArray, List.set_cons_zero, List.set_cons_succ]
        refine passed 18 rfl (by kernel_rfl) (by kernel_rfl) (by kernel_rfl) (by kernel_rfl) (fun _ _ _ h => h) (by rfl) (by assumption) ?_
        try simp only [Act.put, List.setIfInBounds_toArray, List.set_cons_zero, List.set_cons_succ]
        refine passed 19 rfl (by kernel_rfl) (by kernel_rfl) (by kernel_rfl) (by kernel_rfl) (fun _ _ _ h => h) (by rfl) (by assumption) ?_
        try simp only [Act.put, List.setIfInBounds_toArray, List.set_cons_zero, List.set_cons_succ]
        refine passed 20 rfl (by kernel_rfl) (by kernel_rfl) (by kernel_rfl) (by kernel_rfl) (fun _ _ _ h => h) (by rfl) (by assumption) ?_
        try simp only [Act.put, List.setIfInBounds_toArray, List.set_cons_zero, List.set_cons_succ]
        refine passed 21 rfl (by kernel_rfl) (by kernel_rfl) (by kernel_rfl) (by kernel_rfl) (fun _ _ _ h => h) (by rfl) (by assumption) ?_
        try simp only [Act.put, List.setIfInBounds_toArray, List.set_cons_zero, List.set_cons_succ]
        refine passed 22 rfl (by kernel_rfl) (by kernel_rfl) (by kernel_rfl) (by kernel_rfl) (fun _ _ _ h => h) (by rfl) (by assumption) ?_
        try simp only [Act.put, List.setIfInBounds_toArray, List.set_cons_zero, List.set_cons_succ]
        refine passed 23 rfl (by kernel_rfl) (by kernel_rfl) (by kernel_rfl) (by kernel_rfl) (fun _ _ _ h => h) (by rfl) (by assumption) ?_
        try simp only [Act.put, List.setIfInBounds_toArray, List.set_cons_zero, List.set_cons_succ]
        refine passed 24 rfl (by kernel_rfl) (by kernel_rfl) (by kernel_rfl) (by kernel_rfl) (fun _ _ _ h => h) (by rfl) (by assumption) ?_
        try simp only [Act.put, List.setIfInBounds_toArray, List.set_cons_zero, List.set_cons_succ]
        refine passed 25 rfl (by kernel_rfl) (by kernel_rfl) (by kernel_rfl) (by kernel_rfl) (fun _ _ _ h => h) (by rfl) (by assumption) ?_
        try simp only [Act.put, List.setIfInBounds_toArray, List.set_cons_zero, List.set_cons_succ]
        refine took 26 (v := ?_) rfl (by kernel_rfl) (by kernel_rfl) (by kernel_rfl) (by kernel_rfl) (fun _ _ _ h => h) (by rfl) (by assumption) ?_ ?_
        rotate_left
        · (intro W hSw; (try dsimp only at hSw); go_simp; first | done | with_reducible rfl)
        try simp only [Act.put, List.setIfInBounds_toArray, List.set_cons_zero, List.set_cons_succ]
        refine allDone (by kernel_rfl) ?_ _
        have Hb21 := Lib.hid (Hb2.out.below hS1 Hb2.out.lt)
        have HB1 := Lib.hid (below_then HB.out hS1)
        clear hHeld hB1 hS1 hS0
        go_wp2_with (refine wpList_store_row rfl 75 _ _ rfl w.heap.size (mC 0 0 (.slice none 0 0)) rfl rfl 75 (mC 0 0 (.slice none 0 0)) Hb21.out info_ms rfl (mC_one _ _ _ _ _) ?_)
        exact bodyPost_ret (results_cell_int rfl _ _ w.heap.size (mC 0 0 (.slice none 0 0)) (.int .i64 13) rfl rfl (run_loadVar_row _ w.heap.size 75 _ (mC 0 0 (.slice none 0 0)) (0, 0) _ (Hb21.out.row _) Tryd.underlying75 rfl info_ms)) rfl (hN.out HN.out _ _ ⟨none, 0, rfl, World.ownsRow_nil _ _ _ 1, below_row HB1.out (Nat.le_refl _) _⟩)
      · have HN : Hid (stackGo C0 l 0 [] = none) := by
          rw [← HP.out, HP2.out, if_neg (fun h => by have := h.2.2; omega)]; rfl
        obtain ⟨rn, cn, hrn, hcn, hr255, hc255, hni2⟩ := HMay.out h1
        subst h1
        subst hrn
        subst h2
        clear hni2 hcn
        have hwr : IntKind.i64.wrap ((R : Int) + (rn : Int)) = (R : Int) + (rn : Int) := by rw [IntKind.wrap_i64]; omega
        go_wp2_with fail
        refine region_E 27 (fun W => Below wr.heap.size wr W ∧ W.cell? (ad.add (j * 3)) = some (.int .i64 (rn : Nat)) ∧ W.cell? ⟨(ad.add (j * 3)).block, (ad.add (j * 3)).off + 1, none⟩ = some (.int .i64 c) ∧ W.cell? ⟨(ad.add (j * 3)).block, (ad.add (j * 3)).off + 2, none⟩ = some (.slice Ai ni ci) ∧ W.cell? ⟨w.heap.size + 1, 0, none⟩ = some (.int .i64 R) ∧ W.cell? ⟨w.heap.size + 1, 1, none⟩ = some (.int .i64 c)) (by kernel_rfl) (KEEP.out _ (Below.refl _ _).drew) (fun hHeld => ?_)
        refine took 0 (v := ?_) rfl (by kernel_rfl) (by kernel_rfl) (by kernel_rfl) (by kernel_rfl) (fun _ _ _ h => h) (by rfl) (by assumption) ?_ ?_
        rotate_left
        · (intro W hSw; (try dsimp only at hSw); go_simp; first | done | with_reducible rfl)
        try simp only [Act.put, List.setIfInBounds_toArray, List.set_cons_zero, List.set_cons_succ]
        refine took 1 (v := ?_) rfl (by kernel_rfl) (by kernel_rfl) (by kernel_rfl) (by kernel_rfl) (fun _ _ _ h => h) (by rfl) (by assumption) ?_ ?_
        rotate_left
        · (intro W hSw; (try dsimp only at hSw); go_simp; first | done | with_reducible rfl)
        try simp only [Act.put, List.setIfInBounds_toArray, List.set_cons_zero, List.set_cons_succ]
        refine took 2 (v := ?_) rfl (by kernel_rfl) (by kernel_rfl) (by kernel_rfl) (by kernel_rfl) (fun _ _ _ h => h) (by rfl) (by assumption) ?_ ?_
        rotate_left
        · (intro W hSw; (try dsimp only at hSw); go_simp; first | done | with_reducible rfl)
        try simp only [Act.put, List.setIfInBounds_toArray, List.set_cons_zero, List.set_cons_succ]
        refine took 3 (v := ?_) rfl (by kernel_rfl) (by kernel_rfl) (by kernel_rfl) (by kernel_rfl) (fun _ _ _ h => h) (by rfl) (by assumption) ?_ ?_
        rotate_left
        · (intro W hSw; (try dsimp only at hSw); go_simp; first | done | with_reducible rfl)
        try simp only [Act.put, List.setIfInBounds_toArray, List.set_cons_zero, List.set_cons_succ]
        refine carried 4 rfl (by kernel_rfl) (by rfl) (fun K hK => ?_)
        go_simp
        (go_at_call 70; ((with_reducible refine (HM.out _).out.mono ?_); rintro e w1 ⟨rfl, hB1⟩; have hS1 := below_then (Below.refl wr.heap.size wr).drew hB1))
        refine hK.out _ _ (KEEP.out _ hS1) (fun hHeld => ?_)
        clear hK K
        try simp only [Act.put, List.setIfInBounds_toArray, List.set_cons_zero, List.set_cons_succ]
        refine took 5 (v := ?_) rfl (by kernel_rfl) (by kernel_rfl) (by kernel_rfl) (by kernel_rfl) (fun _ _ _ h => h) (by rfl) (by assumption) ?_ ?_
        rotate_left
        · (intro W hSw; (try dsimp only at hSw); go_simp; first | done | with_reducible rfl)
        try simp only [Act.put, List.setIfInBounds_toArray, List.set_cons_zero, List.set_cons_succ]
        refine took 6 (v := ?_) rfl (by kernel_rfl) (by kernel_rfl) (by kernel_rfl) (by kernel_rfl) (fun _ _ _ h => h) (by rfl) (by assumption) ?_ ?_
        rotate_left
        · (intro W hSw; (try dsimp only at hSw); go_simp; first | done | with_reducible rfl)
        try simp only [Act.put, List.setIfInBounds_toArray, List.set_cons_zero, List.set_cons_succ]
        refine took 7 (v := ?_) rfl (by kernel_rfl) (by kernel_rfl) (by kernel_rfl) (by kernel_rfl) (fun _ _ _ h => h) (by rfl) (by assumption) ?_ ?_
        rotate_left
        · (intro W hSw; (try dsimp only at hSw); go_simp; first | done | with_reducible rfl)
        try simp only [Act.put, List.setIfInBounds_toArray, List.set_cons_zero, List.set_cons_succ]
        refine took 8 (v := ?_) rfl (by kernel_rfl) (by kernel_rfl) (by kernel_rfl) (by kernel_rfl) (fun _ _ _ h => h) (by rfl) (by assumption) ?_ ?_
        rotate_left
        · (intro W hSw; (try dsimp only at hSw); go_simp; first | done | with_reducible rfl)
        try simp only [Act.put, List.setIfInBounds_toArray, List.set_cons_zero, List.set_cons_succ]
        refine took 9 (v := ?_) rfl (by kernel_rfl) (by kernel_rfl) (by kernel_rfl) (by kernel_rfl) (fun _ _ _ h => h) (by rfl) (by assumption) ?_ ?_
        rotate_left
        · (intro W hSw; (try dsimp only at hSw); go_simp; first | done | with_reducible rfl)
        try simp only [Act.put, List.setIfInBounds_toArray, List.set_cons_zero, List.set_cons_succ]
        refine took 10 (v := ?_) rfl (by kernel_rfl) (by kernel_rfl) (by kernel_rfl) (by kernel_rfl) (fun _ _ _ h => h) (by rfl) (by assumption) ?_ ?_
        rotate_left
        · (intro W hSw; (try dsimp only at hSw); go_simp; first | done | with_reducible rfl)
        try simp only [Act.put, List.setIfInBounds_toArray, List.set_cons_zero, List.set_cons_succ]
        refine took 11 (v := ?_) rfl (by kernel_rfl) (by kernel_rfl) (by kernel_rfl) (by kernel_rfl) (fun _ _ _ h => h) (by rfl) (by assumption) ?_ ?_
        rotate_left
        · (intro W hSw; (try dsimp only at hSw); go_simp; first | done | with_reducible rfl)
        try simp only [Act.put, List.setIfInBounds_toArray, List.set_cons_zero, List.set_cons_succ]
        refine took 12 (v := ?_) rfl (by kernel_rfl) (by kernel_rfl) (by kernel_rfl) (by kernel_rfl) (fun _ _ _ h => h) (by rfl) (by assumption) ?_ ?_
        rotate_left
        · (intro W hSw; (try dsimp only at hSw); go_simp; first | done | with_reducible rfl)
        try simp only [Act.put, List.setIfInBounds_toArray, List.set_cons_zero, List.set_cons_succ]
        refine took 13 (v := ?_) rfl (by kernel_rfl) (by kernel_rfl) (by kernel_rfl) (by kernel_rfl) (fun _ _ _ h => h) (by rfl) (by assumption) ?_ ?_
        rotate_left
        · (intro W hSw; (try dsimp only at hSw); go_simp; first | done | with_reducible rfl)
        try simp only [Act.put, List.setIfInBounds_toArray, List.set_cons_zero, List.set_cons_succ]
        refine took 14 (v := ?_) rfl (by kernel_rfl) (by kernel_rfl) (by kernel_rfl) (by kernel_rfl) (fun _ _ _ h => h) (by rfl) (by assumption) ?_ ?_
        rotate_left
        · (intro W hSw; (try dsimp only at hSw); go_simp; first | done | with_reducible rfl)
        try simp only [Act.put, List.setIfInBounds_toArray, List.set_cons_zero, List.set_cons_succ]
        refine took 15 (v := ?_) rfl (by kernel_rfl) (by kernel_rfl) (by kernel_rfl) (by kernel_rfl) (fun _ _ _ h => h) (by rfl) (by assumption) ?_ ?_
        rotate_left
        · (intro W hSw; (try dsimp only at hSw); go_simp; first | done | with_reducible rfl)
        try simp only [Act.put, List.setIfInBounds_toArray, List.set_cons_zero, List.set_cons_succ]
        refine took 16 (v := ?_) rfl (by kernel_rfl) (by kernel_rfl) (by kernel_rfl) (by kernel_rfl) (fun _ _ _ h => h) (by rfl) (by assumption) ?_ ?_
        rotate_left
        · (intro W hSw; (try dsimp only at hSw); go_simp; first | done | with_reducible rfl)
        try simp only [Act.put, List.setIfInBounds_toArray, List.set_cons_zero, List.set_cons_succ]
        refine took 17 (v := ?_) rfl (by kernel_rfl) (by kernel_rfl) (by kernel_rfl) (by kernel_rfl) (fun _ _ _ h => h) (by rfl) (by assumption) ?_ ?_
        rotate_left
        · (intro W hSw; (try dsimp only at hSw); go_simp; first | done | with_reducible rfl)
        try simp only [Act.put, List.setIfInBounds_toArray, List.set_cons_zero, List.set_cons_succ]
        refine took 18 (v := ?_) rfl (by kernel_rfl) (by kernel_rfl) (by kernel_rfl) (by kernel_rfl) (fun _ _ _ h => h) (by rfl) (by assumption) ?_ ?_
        rotate_left
        · (intro W hSw; (try dsimp only at hSw); go_simp; first | done | with_reducible rfl)
        try simp only [Act.put, List.setIfInBounds_toArray, List.set_cons_zero, List.set_cons_succ]
        refine took 19 (v := ?_) rfl (by kernel_rfl) (by kernel_rfl) (by kernel_rfl) (by kernel_rfl) (fun _ _ _ h => h) (by rfl) (by assumption) ?_ ?_
        rotate_left
        · (intro W hSw; (try dsimp only at hSw); go_simp; first | done | with_reducible rfl)
        try simp only [Act.put, List.setIfInBounds_toArray, List.set_cons_zero, List.set_cons_succ]
        refine took 20 (v := ?_) rfl (by kernel_rfl) (by kernel_rfl) (by kernel_rfl) (by kernel_rfl) (fun _ _ _ h => h) (by rfl) (by assumption) ?_ ?_
        rotate_left
        · (intro W hSw; (try dsimp only at hSw); go_simp; first | done | with_reducible rfl)
        try simp only [Act.put, List.setIfInBounds_toArray, List.set_cons_zero, List.set_cons_succ]
        refine took 21 (v := ?_) rfl (by kernel_rfl) (by kernel_rfl) (by kernel_rfl) (by kernel_rfl) (fun _ _ _ h => h) (by rfl) (by assumption) ?_ ?_
        rotate_left
        · (intro W hSw; (try dsimp only at hSw); go_simp; first | done | with_reducible rfl)
        try simp only [Act.put, List.setIfInBounds_toArray, List.set_cons_zero, List.set_cons_succ]
        refine took 22 (v := ?_) rfl (by kernel_rfl) (by kernel_rfl) (by kernel_rfl) (by kernel_rfl) (fun _ _ _ h => h) (by rfl) (by assumption) ?_ ?_
        rotate_left
        · (intro W hSw; (try dsimp only at hSw); go_simp; first | done | with_reducible rfl)
        try simp only [Act.put, List.setIfInBounds_toArray, List.set_cons_zero, List.set_cons_succ]
        refine took 23 (v := ?_) rfl (by kernel_rfl) (by kernel_rfl) (by kernel_rfl) (by kernel_rfl) (fun _ _ _ h => h) (by rfl) (by assumption) ?_ ?_
        rotate_left
        · (intro W hSw; (try dsimp only at hSw); go_simp; first | done | with_reducible rfl)
        try simp only [Act.put, List.setIfInBounds_toArray, List.set_cons_zero, List.set_cons_succ]
        refine took 24 (v := ?_) rfl (by kernel_rfl) (by kernel_rfl) (by kernel_rfl) (by kernel_rfl) (fun _ _ _ h => h) (by rfl) (by assumption) ?_ ?_
        rotate_left
        · (intro W hSw; (try dsimp only at hSw); go_simp; first | done | with_reducible rfl)
        try simp only [Act.put, List.setIfInBounds_toArray, List.set_cons_zero, List.set_cons_succ]
        refine took 25 (v := ?_) rfl (by kernel_rfl) (by kernel_rfl) (by kernel_rfl) (by kernel_rfl) (fun _ _ _ h => h) (by rfl) (by assumption) ?_ ?_
        rotate_left
        · (intro W hSw; (try dsimp only at hSw); go_simp; first | done | with_reducible rfl)
        try simp only [Act.put, List.setIfInBounds_toArray, List.set_cons_zero, List.set_cons_succ]
        refine took 26 (v := ?_) rfl (by kernel_rfl) (by kernel_rfl) (by kernel_rfl) (by kernel_rfl) (fun _ _ _ h => h) (by rfl) (by assumption) ?_ ?_
        rotate_left
        · (intro W hSw; (try dsimp only at hSw); go_simp; first | done | with_reducible rfl)
        try simp only [Act.put, List.setIfInBounds_toArray, List.set_cons_zero, List.set_cons_succ]
        refine allDone (by kernel_rfl) ?_ _
        have Hb21 := Lib.hid (Hb2.out.below hS1 Hb2.out.lt)
        have HB1 := Lib.hid (below_then HB.out hS1)
        clear hHeld hB1 hS1 hS0
        go_wp2_with (refine wpList_store_row rfl 75 _ _ rfl w.heap.size (mC 0 0 (.slice none 0 0)) rfl rfl 75 (mC 0 0 (.slice none 0 0)) Hb21.out info_ms rfl (mC_one _ _ _ _ _) ?_)
        exact bodyPost_ret (results_cell_int rfl _ _ w.heap.size (mC 0 0 (.slice none 0 0)) (.int .i64 13) rfl rfl (run_loadVar_row _ w.heap.size 75 _ (mC 0 0 (.slice none 0 0)) (0, 0) _ (Hb21.out.row _) Tryd.underlying75 rfl info_ms)) rfl (hN.out HN.out _ _ ⟨none, 0, rfl, World.ownsRow_nil _ _ _ 1, below_row HB1.out (Nat.le_refl _) _⟩)
      · rw [if_pos ⟨h1, h2, h3⟩] at HP2
        obtain ⟨rn, cn, hrn, hcn, hr255, hc255, hni2⟩ := HMay.out h1
        have hnib : ni ≤ rn * 255 := by rw [hni2]; exact Nat.mul_le_mul_left _ hc255
        have HC0 : Hid (0 ≤ C0) := by rw [Hid, ← h2]; omega
        subst h1
        subst hrn
        subst h2
        rw [Int.toNat_natCast] at HP2
        clear hni2 hcn
        have hwr : IntKind.i64.wrap ((R : Int) + (rn : Int)) = (R : Int) + (rn : Int) := by rw [IntKind.wrap_i64]; omega
        go_wp2_with fail
        refine region_E 27 (fun W => Below wr.heap.size wr W ∧ W.cell? (ad.add (j * 3)) = some (.int .i64 (rn : Nat)) ∧ W.cell? ⟨(ad.add (j * 3)).block, (ad.add (j * 3)).off + 1, none⟩ = some (.int .i64 c) ∧ W.cell? ⟨(ad.add (j * 3)).block, (ad.add (j * 3)).off + 2, none⟩ = some (.slice Ai ni ci) ∧ W.cell? ⟨w.heap.size + 1, 0, none⟩ = some (.int .i64 R) ∧ W.cell? ⟨w.heap.size + 1, 1, none⟩ = some (.int .i64 c)) (by kernel_rfl) (KEEP.out _ (Below.refl _ _).drew) (fun hHeld => ?_)
        refine took 0 (v := ?_) rfl (by kernel_rfl) (by kernel_rfl) (by kernel_rfl) (by kernel_rfl) (fun _ _ _ h => h) (by rfl) (by assumption) ?_ ?_
        rotate_left
        · (intro W hSw; (try dsimp only at hSw); go_simp; first | done | with_reducible rfl)
        try simp only [Act.put, List.setIfInBounds_toArray, List.set_cons_zero, List.set_cons_succ]
        refine took 1 (v := ?_) rfl (by kernel_rfl) (by kernel_rfl) (by kernel_rfl) (by kernel_rfl) (fun _ _ _ h => h) (by rfl) (by assumption) ?_ ?_
        rotate_left
        · (intro W hSw; (try dsimp only at hSw); go_simp; first | done | with_reducible rfl)
        try simp only [Act.put, List.setIfInBounds_toArray, List.set_cons_zero, List.set_cons_succ]
        refine took 2 (v := ?_) rfl (by kernel_rfl) (by kernel_rfl) (by kernel_rfl) (by kernel_rfl) (fun _ _ _ h => h) (by rfl) (by assumption) ?_ ?_
        rotate_left
        · (intro W hSw; (try dsimp only at hSw); go_simp; first | done | with_reducible rfl)
        try simp only [Act.put, List.setIfInBounds_toArray, List.set_cons_zero, List.set_cons_succ]
        refine took 3 (v := ?_) rfl (by kernel_rfl) (by kernel_rfl) (by kernel_rfl) (by kernel_rfl) (fun _ _ _ h => h) (by rfl) (by assumption) ?_ ?_
        rotate_left
        · (intro W hSw; (try dsimp only at hSw); go_simp; first | done | with_reducible rfl)
        try simp only [Act.put, List.setIfInBounds_toArray, List.set_cons_zero, List.set_cons_succ]
        refine carried 4 rfl (by kernel_rfl) (by rfl) (fun K hK => ?_)
        go_simp
        (go_at_call 70; ((with_reducible refine (HM.out _).out.mono ?_); rintro e w1 ⟨rfl, hB1⟩; have hS1 := below_then (Below.refl wr.heap.size wr).drew hB1))
        refine hK.out _ _ (KEEP.out _ hS1) (fun hHeld => ?_)
        clear hK K
        try simp only [Act.put, List.setIfInBounds_toArray, List.set_cons_zero, List.set_cons_succ]
        refine took 5 (v := ?_) rfl (by kernel_rfl) (by kernel_rfl) (by kernel_rfl) (by kernel_rfl) (fun _ _ _ h => h) (by rfl) (by assumption) ?_ ?_
        rotate_left
        · (intro W hSw; (try dsimp only at hSw); go_simp; first | done | with_reducible rfl)
        try simp only [Act.put, List.setIfInBounds_toArray, List.set_cons_zero, List.set_cons_succ]
        refine took 6 (v := ?_) rfl (by kernel_rfl) (by kernel_rfl) (by kernel_rfl) (by kernel_rfl) (fun _ _ _ h => h) (by rfl) (by assumption) ?_ ?_
        rotate_left
        · (intro W hSw; (try dsimp only at hSw); go_simp; first | done | with_reducible rfl)
        try simp only [Act.put, List.setIfInBounds_toArray, List.set_cons_zero, List.set_cons_succ]
        refine took 7 (v := ?_) rfl (by kernel_rfl) (by kernel_rfl) (by kernel_rfl) (by kernel_rfl) (fun _ _ _ h => h) (by rfl) (by assumption) ?_ ?_
        rotate_left
        · (intro W hSw; (try dsimp only at hSw); go_simp; first | done | with_reducible rfl)
        try simp only [Act.put, List.setIfInBounds_toArray, List.set_cons_zero, List.set_cons_succ]
        refine took 8 (v := ?_) rfl (by kernel_rfl) (by kernel_rfl) (by kernel_rfl) (by kernel_rfl) (fun _ _ _ h => h) (by rfl) (by assumption) ?_ ?_
        rotate_left
        · (intro W hSw; (try dsimp only at hSw); go_simp; first | done | with_reducible rfl)
        try simp only [Act.put, List.setIfInBounds_toArray, List.set_cons_zero, List.set_cons_succ]
        refine took 9 (v := ?_) rfl (by kernel_rfl) (by kernel_rfl) (by kernel_rfl) (by kernel_rfl) (fun _ _ _ h => h) (by rfl) (by assumption) ?_ ?_
        rotate_left
        · (intro W hSw; (try dsimp only at hSw); go_simp; first | done | with_reducible rfl)
        try simp only [Act.put, List.setIfInBounds_toArray, List.set_cons_zero, List.set_cons_succ]
        refine took 10 (v := ?_) rfl (by kernel_rfl) (by kernel_rfl) (by kernel_rfl) (by kernel_rfl) (fun _ _ _ h => h) (by rfl) (by assumption) ?_ ?_
        rotate_left
        · (intro W hSw; (try dsimp only at hSw); go_simp; first | done | with_reducible rfl)
        try simp only [Act.put, List.setIfInBounds_toArray, List.set_cons_zero, List.set_cons_succ]
        refine took 11 (v := ?_) rfl (by kernel_rfl) (by kernel_rfl) (by kernel_rfl) (by kernel_rfl) (fun _ _ _ h => h) (by rfl) (by assumption) ?_ ?_
        rotate_left
        · (intro W hSw; (try dsimp only at hSw); go_simp; first | done | with_reducible rfl)
        try simp only [Act.put, List.setIfInBounds_toArray, List.set_cons_zero, List.set_cons_succ]
        refine took 12 (v := ?_) rfl (by kernel_rfl) (by kernel_rfl) (by kernel_rfl) (by kernel_rfl) (fun _ _ _ h => h) (by rfl) (by assumption) ?_ ?_
        rotate_left
        · (intro W hSw; (try dsimp only at hSw); go_simp; first | done | with_reducible rfl)
        try simp only [Act.put, List.setIfInBounds_toArray, List.set_cons_zero, List.set_cons_succ]
        refine took 13 (v := ?_) rfl (by kernel_rfl) (by kernel_rfl) (by kernel_rfl) (by kernel_rfl) (fun _ _ _ h => h) (by rfl) (by assumption) ?_ ?_
        rotate_left
        · (intro W hSw; (try dsimp only at hSw); go_simp; first | done | with_reducible rfl)
        try simp only [Act.put, List.setIfInBounds_toArray, List.set_cons_zero, List.set_cons_succ]
        refine took 14 (v := ?_) rfl (by kernel_rfl) (by kernel_rfl) (by kernel_rfl) (by kernel_rfl) (fun _ _ _ h => h) (by rfl) (by assumption) ?_ ?_
        rotate_left
        · (intro W hSw; (try dsimp only at hSw); go_simp; first | done | with_reducible rfl)
        try simp only [Act.put, List.setIfInBounds_toArray, List.set_cons_zero, List.set_cons_succ]
        refine took 15 (v := ?_) rfl (by kernel_rfl) (by kernel_rfl) (by kernel_rfl) (by kernel_rfl) (fun _ _ _ h => h) (by rfl) (by assumption) ?_ ?_
        rotate_left
        · (intro W hSw; (try dsimp only at hSw); go_simp; first | done | with_reducible rfl)
        try simp only [Act.put, List.setIfInBounds_toArray, List.set_cons_zero, List.set_cons_succ]
        refine took 16 (v := ?_) rfl (by kernel_rfl) (by kernel_rfl) (by kernel_rfl) (by kernel_rfl) (fun _ _ _ h => h) (by rfl) (by assumption) ?_ ?_
        rotate_left
        · (intro W hSw; (try dsimp only at hSw); go_simp; first | done | with_reducible rfl)
        try simp only [Act.put, List.setIfInBounds_toArray, List.set_cons_zero, List.set_cons_succ]
        refine took 17 (v := ?_) rfl (by kernel_rfl) (by kernel_rfl) (by kernel_rfl) (by kernel_rfl) (fun _ _ _ h => h) (by rfl) (by assumption) ?_ ?_
        rotate_left
        · (intro W hSw; (try dsimp only at hSw); go_simp; first | done | with_reducible rfl)
        try simp only [Act.put, List.setIfInBounds_toArray, List.set_cons_zero, List.set_cons_succ]
        refine took 18 (v := ?_) rfl (by kernel_rfl) (by kernel_rfl) (by kernel_rfl) (by kernel_rfl) (fun _ _ _ h => h) (by rfl) (by assumption) ?_ ?_
        rotate_left
        · (intro W hSw; (try dsimp only at hSw); go_simp; first | done | with_reducible rfl)
        try simp only [Act.put, List.setIfInBounds_toArray, List.set_cons_zero, List.set_cons_succ]
        refine took 19 (v := ?_) rfl (by kernel_rfl) (by kernel_rfl) (by kernel_rfl) (by kernel_rfl) (fun _ _ _ h => h) (by rfl) (by assumption) ?_ ?_
        rotate_left
        · (intro W hSw; (try dsimp only at hSw); go_simp; first | done | with_reducible rfl)
        try simp only [Act.put, List.setIfInBounds_toArray, List.set_cons_zero, List.set_cons_succ]
        refine took 20 (v := ?_) rfl (by kernel_rfl) (by kernel_rfl) (by kernel_rfl) (by kernel_rfl) (fun _ _ _ h => h) (by rfl) (by assumption) ?_ ?_
        rotate_left
        · (intro W hSw; (try dsimp only at hSw); go_simp; first | done | with_reducible rfl)
        try simp only [Act.put, List.setIfInBounds_toArray, List.set_cons_zero, List.set_cons_succ]
        refine took 21 (v := ?_) rfl (by kernel_rfl) (by kernel_rfl) (by kernel_rfl) (by kernel_rfl) (fun _ _ _ h => h) (by rfl) (by assumption) ?_ ?_
        rotate_left
        · (intro W hSw; (try dsimp only at hSw); go_simp; first | done | with_reducible rfl)
        try simp only [Act.put, List.setIfInBounds_toArray, List.set_cons_zero, List.set_cons_succ]
        refine took 22 (v := ?_) rfl (by kernel_rfl) (by kernel_rfl) (by kernel_rfl) (by kernel_rfl) (fun _ _ _ h => h) (by rfl) (by assumption) ?_ ?_
        rotate_left
        · (intro W hSw; (try dsimp only at hSw); go_simp; first | done | with_reducible rfl)
        try simp only [Act.put, List.setIfInBounds_toArray, List.set_cons_zero, List.set_cons_succ]
        refine took 23 (v := ?_) rfl (by kernel_rfl) (by kernel_rfl) (by kernel_rfl) (by kernel_rfl) (fun _ _ _ h => h) (by rfl) (by assumption) ?_ ?_
        rotate_left
        · (intro W hSw; (try dsimp only at hSw); go_simp; first | done | with_reducible rfl)
        try simp only [Act.put, List.setIfInBounds_toArray, List.set_cons_zero, List.set_cons_succ]
        refine took 24 (v := ?_) rfl (by kernel_rfl) (by kernel_rfl) (by kernel_rfl) (by kernel_rfl) (fun _ _ _ h => h) (by rfl) (by assumption) ?_ ?_
        rotate_left
        · (intro W hSw; (try dsimp only at hSw); go_simp; first | done | with_reducible rfl)
        try simp only [Act.put, List.setIfInBounds_toArray, List.set_cons_zero, List.set_cons_succ]
        refine took 25 (v := ?_) rfl (by kernel_rfl) (by kernel_rfl) (by kernel_rfl) (by kernel_rfl) (fun _ _ _ h => h) (by rfl) (by assumption) ?_ ?_
        rotate_left
        · (intro W hSw; (try dsimp only at hSw); go_simp; first | done | with_reducible rfl)
        try simp only [Act.put, List.setIfInBounds_toArray, List.set_cons_zero, List.set_cons_succ]
        refine took 26 (v := ?_) rfl (by kernel_rfl) (by kernel_rfl) (by kernel_rfl) (by kernel_rfl) (fun _ _ _ h => h) (by rfl) (by assumption) ?_ ?_
        rotate_left
        · (intro W hSw; (try dsimp only at hSw); go_simp; first | done | with_reducible rfl)
        try simp only [Act.put, List.setIfInBounds_toArray, List.set_cons_zero, List.set_cons_succ]
        refine allDone (by kernel_rfl) ?_ _
        obtain ⟨-, f0, f1, f2, q0, q1⟩ := hHeld
        have Hb21 := Lib.hid (Hb2.out.below hS1 Hb2.out.lt)
        have Hb41 := Lib.hid (Hb4.out.below hS1 Hb4.out.lt)
        have HO1 := Lib.hid (own_belowL HO.out hS1)
        have HB1 := Lib.hid (below_then HB.out hS1)
        have HRD := Lib.hid (hread.out.below (hS1.mono (by omega)))
        have hz1w : w.heap.size + 1 < w1.heap.size := Hb41.out.lt
        have k00 := Hb41.out.frozen 0
        clear hB1 hS1 hS0
        go_wp2_with fail
        refine region_E 8 (fun W => W.cell? (ad.add (j * 3)) = some (.int .i64 (rn : Nat)) ∧ W.cell? ⟨w.heap.size + 1, 0, none⟩ = some (.int .i64 R)) (by kernel_rfl) ⟨f0, q0⟩ (fun hHeld => ?_)
        refine took 0 (v := ?_) rfl (by kernel_rfl) (by kernel_rfl) (by kernel_rfl) (by kernel_rfl) (fun _ _ _ h => h) (by rfl) (by assumption) ?_ ?_
        rotate_left
        · (intro W hSw; (try dsimp only at hSw); go_simp; first | done | with_reducible rfl)
        try simp only [Act.put, List.setIfInBounds_toArray, List.set_cons_zero, List.set_cons_succ]
        refine took 1 (v := ?_) rfl (by kernel_rfl) (by kernel_rfl) (by kernel_rfl) (by kernel_rfl) (fun _ _ _ h => h) (by rfl) (by assumption) ?_ ?_
        rotate_left
        · (intro W hSw; (try dsimp only at hSw); go_simp; first | done | with_reducible rfl)
        try simp only [Act.put, List.setIfInBounds_toArray, List.set_cons_zero, List.set_cons_succ]
        refine took 2 (v := ?_) rfl (by kernel_rfl) (by kernel_rfl) (by kernel_rfl) (by kernel_rfl) (fun _ _ _ h => h) (by rfl) (by assumption) ?_ ?_
        rotate_left
        · (intro W hSw; (try dsimp only at hSw); go_simp; first | done | with_reducible rfl)
        try simp only [Act.put, List.setIfInBounds_toArray, List.set_cons_zero, List.set_cons_succ]
        refine took 3 (v := ?_) rfl (by kernel_rfl) (by kernel_rfl) (by kernel_rfl) (by kernel_rfl) (fun _ _ _ h => h) (by rfl) (by assumption) ?_ ?_
        rotate_left
        · (intro W hSw; (try dsimp only at hSw); go_simp; first | done | with_reducible rfl)
        try simp only [Act.put, List.setIfInBounds_toArray, List.set_cons_zero, List.set_cons_succ]
        refine took 4 (v := ?_) rfl (by kernel_rfl) (by kernel_rfl) (by kernel_rfl) (by kernel_rfl) (fun _ _ _ h => h) (by rfl) (by assumption) ?_ ?_
        rotate_left
        · (intro W hSw; (try dsimp only at hSw); go_simp; first | done | with_reducible rfl)
        try simp only [Act.put, List.setIfInBounds_toArray, List.set_cons_zero, List.set_cons_succ]
        refine took 5 (v := ?_) rfl (by kernel_rfl) (by kernel_rfl) (by kernel_rfl) (by kernel_rfl) (fun _ _ _ h => h) (by rfl) (by assumption) ?_ ?_
        rotate_left
        · (intro W hSw; (try dsimp only at hSw); go_simp; first | done | with_reducible rfl)
        try simp only [Act.put, List.setIfInBounds_toArray, List.set_cons_zero, List.set_cons_succ]
        refine took 6 (v := ?_) rfl (by kernel_rfl) (by kernel_rfl) (by kernel_rfl) (by kernel_rfl) (fun _ _ _ h => h) (by rfl) (by assumption) ?_ ?_
        rotate_left
        · (intro W hSw; (try dsimp only at hSw); go_simp; first | done | with_reducible rfl)
        try simp only [Act.put, List.setIfInBounds_toArray, List.set_cons_zero, List.set_cons_succ]
        refine took 7 (v := ?_) rfl (by kernel_rfl) (by kernel_rfl) (by kernel_rfl) (by kernel_rfl) (fun _ _ _ h => h) (by rfl) (by assumption) ?_ ?_
        rotate_left
        · (intro W hSw; (try dsimp only at hSw); go_simp; first | done | with_reducible rfl)
        try simp only [Act.put, List.setIfInBounds_toArray, List.set_cons_zero, List.set_cons_succ]
        refine lately 8 rfl (by kernel_rfl) (by decide) (by rfl) (fun K hK => ?_)
        go_simp
        refine hK.out _ _ ?_
        clear hK K
        try simp only [Act.put, List.setIfInBounds_toArray, List.set_cons_zero, List.set_cons_succ]
        refine lately 9 rfl (by kernel_rfl) (by decide) (by rfl) (fun K hK => ?_)
        go_simp
        refine hK.out _ _ ?_
        clear hK K
        try simp only [Act.put, List.setIfInBounds_toArray, List.set_cons_zero, List.set_cons_succ]
        refine allDone (by kernel_rfl) ?_ _
        have hb4W := (Hb41.out.set_ 0 (.int .i64 ((R : Int) + (rn : Int)))).drew
        have hoW := (own_setM (j := 0) HO1.out Hb41.out (.int .i64 ((R : Int) + (rn : Int)))).drew
        have hb2W := (Hb21.out.far (p := ⟨w.heap.size + 1, 0, none⟩) (Nat.ne_of_lt (Nat.lt_succ_self _)) (.int .i64 ((R : Int) + (rn : Int)))).drew
        have hBW := (HB1.out.setCell (p := ⟨w.heap.size + 1, 0, none⟩) (Nat.le_succ _) (.int .i64 ((R : Int) + (rn : Int)))).drew
        have hrW := (HRD.out.setCell (p := ⟨w.heap.size + 1, 0, none⟩) (Nat.le_succ _) (.int .i64 ((R : Int) + (rn : Int)))).below ((Below.refl _ _).drew)
        have g2 : (w1.setCell ⟨w.heap.size + 1, 0, none⟩ (.int .i64 ((R : Int) + (rn : Int)))).drew.cell? ⟨(ad.add (j * 3)).block, (ad.add (j * 3)).off + 2, none⟩ = some (.slice Ai ni ci) := by
          exact E2.out _ hBW
        clear hHeld f0 f1 f2 q0 q1 k00 Hb41 HO1 Hb21 HB1 HRD
        generalize (w1.setCell ⟨w.heap.size + 1, 0, none⟩ (.int .i64 ((R : Int) + (rn : Int)))).drew = Wa at *
        have g4 : Wa.cell? ⟨w.heap.size + 1, 2, none⟩ = some (.slice A1 m c') := hb4W.cell 2
        have hzW : w.heap.size + 1 < Wa.heap.size := hb4W.lt
        replace hb4W := Lib.hid hb4W; replace hoW := Lib.hid hoW; replace hb2W := Lib.hid hb2W; replace hBW := Lib.hid hBW; replace hrW := Lib.hid hrW
        have hm1 : m + ni ≤ maxLen := by unfold maxLen; omega
        have hm2 : (m + ni) * 1 ≤ 140737488355328 := by omega
        clear hwr
        go_wp2_with fail
        refine region_E 8 (fun W => W.cell? ⟨(ad.add (j * 3)).block, (ad.add (j * 3)).off + 2, none⟩ = some (.slice Ai ni ci) ∧ W.cell? ⟨w.heap.size + 1, 2, none⟩ = some (.slice A1 m c')) (by kernel_rfl) ⟨g2, g4⟩ (fun hHeld => ?_)
        refine took 0 (v := ?_) rfl (by kernel_rfl) (by kernel_rfl) (by kernel_rfl) (by kernel_rfl) (fun _ _ _ h => h) (by rfl) (by assumption) ?_ ?_
        rotate_left
        · (intro W hSw; (try dsimp only at hSw); go_simp; first | done | with_reducible rfl)
        try simp only [Act.put, List.setIfInBounds_toArray, List.set_cons_zero, List.set_cons_succ]
        refine took 1 (v := ?_) rfl (by kernel_rfl) (by kernel_rfl) (by kernel_rfl) (by kernel_rfl) (fun _ _ _ h => h) (by rfl) (by assumption) ?_ ?_
        rotate_left
        · (intro W hSw; (try dsimp only at hSw); go_simp; first | done | with_reducible rfl)
        try simp only [Act.put, List.setIfInBounds_toArray, List.set_cons_zero, List.set_cons_succ]
        refine took 2 (v := ?_) rfl (by kernel_rfl) (by kernel_rfl) (by kernel_rfl) (by kernel_rfl) (fun _ _ _ h => h) (by rfl) (by assumption) ?_ ?_
        rotate_left
        · (intro W hSw; (try dsimp only at hSw); go_simp; first | done | with_reducible rfl)
        try simp only [Act.put, List.setIfInBounds_toArray, List.set_cons_zero, List.set_cons_succ]
        refine took 3 (v := ?_) rfl (by kernel_rfl) (by kernel_rfl) (by kernel_rfl) (by kernel_rfl) (fun _ _ _ h => h) (by rfl) (by assumption) ?_ ?_
        rotate_left
        · (intro W hSw; (try dsimp only at hSw); go_simp; first | done | with_reducible rfl)
        try simp only [Act.put, List.setIfInBounds_toArray, List.set_cons_zero, List.set_cons_succ]
        refine took 4 (v := ?_) rfl (by kernel_rfl) (by kernel_rfl) (by kernel_rfl) (by kernel_rfl) (fun _ _ _ h => h) (by rfl) (by assumption) ?_ ?_
        rotate_left
        · (intro W hSw; (try dsimp only at hSw); go_simp; first | done | with_reducible rfl)
        try simp only [Act.put, List.setIfInBounds_toArray, List.set_cons_zero, List.set_cons_succ]
        refine took 5 (v := ?_) rfl (by kernel_rfl) (by kernel_rfl) (by kernel_rfl) (by kernel_rfl) (fun _ _ _ h => h) (by rfl) (by assumption) ?_ ?_
        rotate_left
        · (intro W hSw; (try dsimp only at hSw); go_simp; first | done | with_reducible rfl)
        try simp only [Act.put, List.setIfInBounds_toArray, List.set_cons_zero, List.set_cons_succ]
        refine took 6 (v := ?_) rfl (by kernel_rfl) (by kernel_rfl) (by kernel_rfl) (by kernel_rfl) (fun _ _ _ h => h) (by rfl) (by assumption) ?_ ?_
        rotate_left
        · (intro W hSw; (try dsimp only at hSw); go_simp; first | done | with_reducible rfl)
        try simp only [Act.put, List.setIfInBounds_toArray, List.set_cons_zero, List.set_cons_succ]
        refine carriedL 7 rfl (by kernel_rfl) (fun K hK => ?_)
        (refine step_append_any _ (by rfl) _ _ _ (by rfl) w.heap.size 5 i0 (.int .u8 0) 1 1 Tryd.underlying27 hi.out hz0.out hz1.out hz2.out rfl (by omega) A1 m c' _ (by rfl) (hoW.out.drew) w.heap.size Ai ni ci _ (by rfl) (hrW.out.below ((Below.refl _ _).drew)) (row_one hrW.out) hm1 hm2 (Nat.le_of_lt (Nat.lt_trans (Nat.lt_succ_self _) hzW)) ?_; intro A3 c3 w4 ho4 hg4 _hs4; have hb4 : Blk w4 (w.heap.size + 1) 75 _ := blk_grown hb4W.out.drew hoW.out.drew hg4; have hb2' : Blk w4 w.heap.size 75 _ := blk_grown hb2W.out.drew hoW.out.drew hg4; have hB4 : Below w.heap.size w w4 := below_app hBW.out.drew hg4 hoW.out.drew (Nat.le_of_lt (Nat.lt_trans (Nat.lt_succ_self _) hzW)); have g4' : w4.cell? ⟨w.heap.size + 1, 2, none⟩ = some (.slice A1 m c') := hb4.cell 2; have kf4 := hb4.frozen 2; have g2' : w4.cell? ⟨(ad.add (j * 3)).block, (ad.add (j * 3)).off + 2, none⟩ = some (.slice Ai ni ci) := E2.out w4 hB4)
        refine hK.out _ _ (⟨g2', g4'⟩) (fun hHeld => ?_)
        clear hK K
        try simp only [Act.put, List.setIfInBounds_toArray, List.set_cons_zero, List.set_cons_succ]
        refine lately 8 rfl (by kernel_rfl) (by decide) (by rfl) (fun K hK => ?_)
        go_simp
        refine hK.out _ _ ?_
        clear hK K
        try simp only [Act.put, List.setIfInBounds_toArray, List.set_cons_zero, List.set_cons_succ]
        refine lately 9 rfl (by kernel_rfl) (by decide) (by rfl) (fun K hK => ?_)
        go_simp
        refine hK.out _ _ ?_
        clear hK K
        try simp only [Act.put, List.setIfInBounds_toArray, List.set_cons_zero, List.set_cons_succ]
        refine allDone (by kernel_rfl) ?_ _
        clear hHeld g2 g4 g2' g4' kf4
        replace hb4 := Lib.hid hb4; replace hb2' := Lib.hid hb2'; replace hB4 := Lib.hid hB4; replace ho4 := Lib.hid ho4
        clear hg4 _hs4
        go_wp2_with fail
        go_roundw
        case rel =>
          refine ⟨j + 1, c3, R + rn, m + ni, A3, out ++ bs, by go_num, by omega, by omega, by omega, fun _ => HC0.out, hB4.out.setCell (p := ⟨w.heap.size + 1, 2, none⟩) (Nat.le_succ _) _, hb2'.out.far (p := ⟨w.heap.size + 1, 2, none⟩) (Nat.ne_of_lt (Nat.lt_succ_self _)) _, ?_, ?_, ?_⟩
          · rw [Int.natCast_add]
            exact hb4.out.set_ 2 (.slice A3 (m + ni) c3)
          · rw [List.map_append]
            exact own_setM (j := 2) ho4.out hb4.out (.slice A3 (m + ni) c3)
          · exact HP2.out.symm.trans HP.out
        case measure => simp [intOf]; omega
    · have hjn2 : j = n := by omega
      have HS : Hid (stackGo C0 l 0 [] = some (R, out)) := by
        rw [← HP.out, List.drop_of_length_le (by rw [L.out]; omega)]; rfl
      have HC : Hid (0 ≤ C0) := Hc1.out (by omega)
      obtain ⟨Cn, HCn⟩ : ∃ Cn : Nat, Hid (C0 = (Cn : Int)) := ⟨C0.toNat, by have := HC.out; unfold Hid; omega⟩
      rw [HCn.out] at Hb4
      have hge : (n : Int) ≤ j := by omega
      have hol : Hid (out.length = m) := by have h := HO.out.1; unfold Hid; simpa using h
      rw [← hol.out] at HO Hb4
      clear hjn2
      go_wp2_with (first
        | (refine wpList_load_row rfl 75 _ rfl (w.heap.size + 1) rfl 75 (mC R Cn (.slice A1 out.length c')) (0, 0) _ Hb4.out Tryd.underlying75 rfl info_ms ?_)
        | (refine wpList_store_row rfl 75 _ _ rfl w.heap.size (mC R Cn (.slice A1 out.length c')) rfl rfl 75 (mC 0 0 (.slice none 0 0)) Hb2.out info_ms rfl (mC_one _ _ _ _ _) ?_))
      exact bodyPost_ret (results_cell_int rfl _ _ w.heap.size (mC R Cn (.slice A1 out.length c')) (.int .i64 0) rfl rfl (run_loadVar_row _ w.heap.size 75 _ (mC R Cn (.slice A1 out.length c')) (0, 0) _ (Hb2.out.row _) Tryd.underlying75 rfl info_ms)) rfl (hS.out R out HS.out Cn HCn.out _ _ ⟨A1, c', rfl, own_setRowM HO.out Hb2.out _, below_row HB.out (Nat.le_refl _) _⟩)
end Go.Proofs.YtjbedcgacnnanaaDoor
