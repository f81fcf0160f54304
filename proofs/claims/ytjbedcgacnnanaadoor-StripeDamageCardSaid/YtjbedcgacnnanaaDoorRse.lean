/-
  What each row of a matrix makes of the data: walked.
-/
import Derived.Test.YtjbedcgacnnanaaDoorRsd
import Derived.Test.YtjbedcgacnnanaaDoorBq
namespace Go.Proofs.YtjbedcgacnnanaaDoor
set_option linter.unusedSimpArgs false
set_option linter.unusedVariables false
open Go.RowKit

/-- a list of lists of the call's own is handed back -/
def LsRet (w : World) (n : Nat) (xss : List (List UInt8)) (e : Ending) (w' : World) : Prop := ∃ A c, e = .returned (.slice A n c) ∧ Lists w' 0 w.heap.size A n c xss ∧ Below w.heap.size w w'
theorem Rows8.rowr {w : World} {B n k : Nat} {A : Option Addr} {xss : List (List UInt8)} (h : Rows8 w B A n xss) (hk : k < n) : ∃ ad xs Ai ci, A = some ad ∧ xss[k]? = some xs ∧ w.cell? (ad.add k) = some (.slice Ai xs.length ci) ∧ xs.length ≤ ci ∧ ci ≤ maxLen ∧ Reads w B 1 Ai xs.length (xs.map B8) := by
  obtain ⟨ad, xs, Ai, ni, ci, hA, _, hx, hc, h1, h2, hr⟩ := h.row hk
  have hl := hr.len
  subst hl
  exact ⟨ad, xs, Ai, ci, hA, hx, hc, h1, h2, hr⟩
theorem info_row8 : (Tryd.prog.info? 27).map (fun i => (i.zero, i.size, i.bytes)) = some (some (.slice none 0 0), 1, 24) := by kernel_rfl
/-- what is known of the arguments of times, wherever it is -/
structure TimesIn (w W : World) (R C L : Nat) (f : Nat → Nat → UInt8) (Am : Option Addr) (A : Option Addr) (xss : List (List UInt8)) : Prop where
  cell : ∀ i j, i < R → j < C → ∃ ad, Am = some ad ∧ W.cell? (ad.add (i * C + j)) = some (.int .u8 ((f i j).toNat : Int))
  row : ∀ j, j < C → ∃ ad b Aj cj, A = some ad ∧ xss[j]? = some b ∧ b.length = L ∧ W.cell? (ad.add j) = some (.slice Aj L cj) ∧ Reads W w.heap.size 1 Aj L (b.map B8)
theorem times_in {w : World} {R C L : Nat} {f : Nat → Nat → UInt8} {Am A : Option Addr} {xss : List (List UInt8)} (hm : Reads w w.heap.size 1 Am (R * C) ((cellsTo C f (R * C)).map B8)) (hx : Rows8 w w.heap.size A C xss) (hL : ∀ x ∈ xss, x.length = L) (W : World) (hB : Below w.heap.size w W) : TimesIn w W R C L f Am A xss := by
  refine ⟨fun i j hi hj => ?_, fun j hj => ?_⟩
  · obtain ⟨ad, b, hA, _, hb, hc⟩ := (hm.below hB).byte (k := i * C + j) (row_lt hi hj)
    rw [cellsTo_get _ _ _ _ (row_lt hi hj), (div_row hj).1, (div_row hj).2] at hb
    injection hb with hb
    exact ⟨ad, hA, by rw [hb]; exact hc⟩
  · obtain ⟨ad, b, Aj, cj, hA, hb, hc, _, _, hr⟩ := (hx.below hB).rowr hj
    have hl := hL b (List.mem_of_getElem? hb)
    rw [hl] at hc hr
    exact ⟨ad, b, Aj, cj, hA, hb, hl, hc, hr⟩
theorem gfAdd_row (L : Nat) (f : Nat → UInt8) (xss : List (List UInt8)) (hLm : L ≤ 1000000) (W : World) (A7 A8 : Option Addr) (c7 c8 j : Nat) (b : List UInt8) (h7 : Reads W W.heap.size 1 A7 L ((Rsp.rowP j L f xss).map B8)) (h8 : Reads W W.heap.size 1 A8 L (b.map B8)) (hb : xss[j]? = some b) (hl : b.length = L) :
    Calls Tryd.prog 59 #[.slice A7 L c7, .int .u8 ((f j).toNat : Int), .slice A8 L c8] W (SlErrN 5 W L (Rsp.rowP (j + 1) L f xss) 0) := by
  have h := Gfb.add_any A7 A8 L L c7 c8 _ b (f j) W h7 h8 (by omega) (by omega)
  rw [Rsp.rowP_add _ _ _ _ _ hb hl] at h
  have he : eLen (Rsp.rowP j L f xss) b = 0 := if_pos (by rw [Rsp.rowP_len, hl])
  rw [he] at h
  rw [← SlErrN_eq (Rsp.rowP_len (j + 1) L f xss)]
  exact h

set_option maxRecDepth 100000 in
set_option maxHeartbeats 4000000 in
theorem times_any (R C L : Nat) (f : Nat → Nat → UInt8) (Am A : Option Addr) (k cl : Nat) (xss : List (List UInt8)) (w : World) (hR : R ≤ 255) (hC : C ≤ 255) (hC1 : 1 ≤ C) (hk : R * C ≤ k) (hLm : L ≤ 1000000)
    (hm : Reads w w.heap.size 1 Am (R * C) ((cellsTo C f (R * C)).map B8)) (hx : Rows8 w w.heap.size A C xss) (hL : ∀ x ∈ xss, x.length = L) :
    Calls Tryd.prog 40 #[.agg #[.int .i64 R, .int .i64 C, .slice Am (R * C) k], .slice A C cl] w (LsRet w R (Rsp.timesP R C L f xss)) := by
  have IN := Lib.hid (fun W hB => times_in hm hx hL W hB)
  have ADD := Lib.hid (fun i => gfAdd_row L (f i) xss hLm)
  obtain ⟨i0, hi, hz0, hz1, hz2⟩ := info_parts info_u8
  replace hi := Lib.hid hi; replace hz0 := Lib.hid hz0; replace hz1 := Lib.hid hz1; replace hz2 := Lib.hid hz2
  obtain ⟨i1, hi_, hy0, hy1, hy2⟩ := info_parts info_row8
  replace hi_ := Lib.hid hi_; replace hy0 := Lib.hid hy0; replace hy1 := Lib.hid hy1; replace hy2 := Lib.hid hy2
  have LT := Lib.hid (fun (i j : Nat) (hi : i < R) (hj : j < C) => row_lt hi hj)
  have hRC : R * C ≤ 65025 := rc_le hR hC
  generalize R * C = q at *
  clear hm hx hL
  go_enter Tryd.func40, Tryd.ntmps40
  go_wp2_with (at_make; refine wpList_make_full _ rfl _ _ 55 rfl w.heap.size 27 i1 (.slice none 0 0) 1 Tryd.underlying55 hi_.out hy0.out hy1.out .i64 .i64 _ _ R rfl rfl rfl rfl ?_ ?_ ?_ ?_; rotate_left 3; intro w3 hown3 hg3; replace hown3 := Lib.hid hown3; replace hg3 := Lib.hid hg3)
  rotate_left 1
  · rw [hy2.out]; omega
  · unfold maxLen; omega
  · exact (below_alloc (Below.refl _ w) _).size
  have hb0 := Blk.new w 75 #[.int .i64 R, .int .i64 C, .slice Am q k]
  have hB0 := below_alloc (Below.refl w.heap.size w) (.cells #[.int .i64 R, .int .i64 C, .slice Am q k] 75)
  have hb3 : Hid (Blk w3 w.heap.size 75 #[.int .i64 R, .int .i64 C, .slice Am q k]) := hb0.grown hg3.out (by simp)
  have hB3 : Hid (Below w.heap.size w w3) := hB0.grown hg3.out hB0.size (by simp)
  have hsz : w.heap.size < (w.alloc (.cells #[.int .i64 R, .int .i64 C, .slice Am q k] 75)).heap.size := hb0.lt
  have hl3 : Hid (Lists w3 0 w.heap.size (some ⟨(w.alloc (.cells #[.int .i64 R, .int .i64 C, .slice Am q k] 75)).heap.size, 0, none⟩) R R (List.replicate R [])) := by
    have h := hown3.out; rw [Nat.mul_one] at h
    refine Lists.vals h (by simp) (fun i xs hi => ?_) (Nat.zero_le _) hB3.out.size
    rw [List.getElem?_replicate] at hi
    split at hi
    · injection hi with hi
      subst hi
      refine ⟨none, 0, ?_, Nat.le_refl _, Nat.zero_le _, .inl Reads.none_⟩
      rename_i hi'
      show (madeCells #[.slice none 0 0] R).toList[i]? = some (.slice none 0 0)
      rw [toList_madeCells_one]
      simp [List.getElem?_replicate, hi']
    · cases hi
  clear hown3 hg3 hb0 hB0
  have hge : (w.alloc (.cells #[.int .i64 R, .int .i64 C, .slice Am q k] 75)).heap.size = w.heap.size + 1 := by simp
  rw [hge] at hl3 hsz
  clear hge
  generalize w.heap.size + 1 = g at *
  have HB8 : Hid (∀ c7 (W : World), W.ownsRow w.heap.size 5 1 (.slice (some ⟨c7, 0, none⟩) L L) L (madeCells #[Value.int .u8 0] L).toList → ∀ i, W.ownsRow w.heap.size 5 1 (.slice (some ⟨c7, 0, none⟩) L L) L ((Rsp.rowP 0 L (f i) xss).map B8)) := fun c7 W h i => by
    rw [Rsp.rowP_zero, List.map_replicate, show B8 0 = .int .u8 0 from rfl, ← toList_madeCells_one]; exact h
  have SK := Lib.hid (fun (i j : Nat) (h : f i j = 0) => Rsp.rowP_skip j L (f i) xss h)
  go_loopw [16] (fun v16 wr => ∃ i : Nat, v16 = .int .i64 i ∧ i ≤ R ∧ Hid (Below w.heap.size w wr) ∧ Hid (Blk wr w.heap.size 75 #[.int .i64 R, .int .i64 C, .slice Am q k]) ∧ Hid (Lists wr 0 w.heap.size (some ⟨g, 0, none⟩) R R (Rsp.timesP i C L f xss ++ List.replicate (R - i) []))) (fun v16 _ => R - (intOf v16).toNat)
  case atStart => exact ⟨0, rfl, by omega, hB3, hb3, hl3⟩
  case round =>
    clear hB3 hb3 hl3
    obtain ⟨i, rfl, hiR, HB, Hb, HL⟩ := hrel
    by_cases hlt : i < R
    · have hlt' : (i : Int) < (R : Int) := by omega
      have hC0 : (0 : Int) < (C : Int) := by omega
      obtain ⟨ad, b0, A0, c0, hA, -, -, e0, -⟩ := (IN.out wr HB.out).row 0 (by omega)
      subst hA
      have e0' : wr.cell? ad = some (.slice A0 L c0) := by simpa [Addr.add] using e0
      clear e0
      go_wp2_with (at_make; refine wpList_make_full _ rfl _ _ 27 rfl w.heap.size 5 i0 (.int .u8 0) 1 Tryd.underlying27 hi.out hz0.out hz1.out .i64 .i64 _ _ L rfl rfl rfl rfl ?_ ?_ ?_ ?_; rotate_left 3; intro w4 hown4 hg4; replace hown4 := Lib.hid hown4; replace hg4 := Lib.hid hg4)
      rotate_left 1
      · rw [hz2.out]; omega
      · unfold maxLen; omega
      · exact HB.out.size
      have hB4 : Hid (Below wr.heap.size wr w4) := (Below.refl _ _).grown hg4.out (Nat.le_refl _) (by simp)
      have ho4 : Hid (w4.ownsRow w.heap.size 5 1 (.slice (some ⟨wr.heap.size, 0, none⟩) L L) L ((Rsp.rowP 0 L (f i) xss).map B8)) := HB8.out _ _ (by have h := hown4.out; rw [Nat.mul_one] at h; exact h) i
      clear hown4 hg4 e0'
      generalize hwA : wr = wA at *
      replace hwA := Lib.hid hwA
      go_loopw [26, 7] (fun v26 v7 wr => ∃ (j c7 : Nat) (A7 : Option Addr), v26 = .int .i64 j ∧ v7 = .slice A7 L c7 ∧ j ≤ C ∧ Hid (Below wA.heap.size wA wr) ∧ Hid (wr.ownsRow w.heap.size 5 1 (.slice A7 L c7) L ((Rsp.rowP j L (f i) xss).map B8))) (fun v26 _ _ => C - (intOf v26).toNat)
      case atStart => exact ⟨0, L, _, rfl, rfl, by omega, hB4, ho4⟩
      case round =>
        clear hB4 ho4
        obtain ⟨j, c7, A7, rfl, rfl, hjC, HBq, HO⟩ := hrel
        have HB2 := Lib.hid (below_then HB.out HBq.out)
        by_cases hjl : j < C
        · have hjl' : (j : Int) < (C : Int) := by omega
          obtain ⟨am, hAm, em⟩ := (IN.out wr HB2.out).cell i j hlt hjl
          obtain ⟨ad', b, Aj, cj, hA, hb, hl, ej, hr⟩ := (IN.out wr HB2.out).row j hjl
          obtain rfl : ad = ad' := by injection hA
          subst hAm
          have hbq := Hb.out.below HBq.out Hb.out.lt
          have x1 : wr.cell? ⟨w.heap.size, 1, none⟩ = some (.int .i64 C) := hbq.cell 1
          have x2 : wr.cell? ⟨w.heap.size, 2, none⟩ = some (.slice (some am) q k) := hbq.cell 2
          have hq := LT.out i j hlt hjl
          have hmul1 : (i : Int) * (C : Int) = ((i * C : Nat) : Int) := (Int.natCast_mul i C).symm
          have ADDj := Lib.hid (ADD.out i wr A7 Aj c7 cj j b (Reads.of_own HO.out) (hr.more HB2.out.size) hb hl)
          have SKj := Lib.hid (SK.out i j)
          clear hA hb hl hr hbq
          by_cases hc0 : f i j = 0
          · have hs := SKj.out hc0
            rw [hc0] at em
            rw [← hs] at HO
            replace hs := Lib.hid hs
            replace hc0 := Lib.hid hc0
            clear ADDj SKj
            generalize i * C = q1 at *
            have hsum1 : (q1 : Int) + (j : Int) = ((q1 + j : Nat) : Int) := by omega
            generalize q1 + j = s1 at *
            have hs1 : (s1 : Int) < (q : Int) := by omega
            have hs10 : (0 : Int) ≤ (s1 : Int) := by omega
            go_wp2_with fail
            go_roundw
            case rel => exact ⟨j + 1, c7, A7, by go_num, rfl, by omega, HBq, HO⟩
            case measure => simp [intOf]; omega
          · have hne : ((f i j).toNat : Int) ≠ 0 := fun e => hc0 (u8_ext (by simpa using e))
            have u1 := (f i j).toNat_lt
            replace hc0 := Lib.hid hc0
            clear SKj
            generalize (f i j).toNat = cn at *
            generalize i * C = q1 at *
            have hsum1 : (q1 : Int) + (j : Int) = ((q1 + j : Nat) : Int) := by omega
            generalize q1 + j = s1 at *
            have hs1 : (s1 : Int) < (q : Int) := by omega
            have hs10 : (0 : Int) ≤ (s1 : Int) := by omega
            go_wp2_with fail
            refine ADDj.out.mono ?_; rintro e w6 ⟨A6, c6, rfl, ho6, hB6⟩
            have HO6 := Lib.hid (own_base ho6 (Nat.le_trans HB.out.size HBq.out.size))
            have HB6 := Lib.hid (below_then HBq.out hB6)
            clear ADDj ho6 hB6 x1 x2 em ej
            go_wp2_with fail
            go_roundw
            case rel => exact ⟨j + 1, c6, A6, by go_num, rfl, by omega, HB6, HO6⟩
            case measure => simp [intOf]; omega
        · have hge : (C : Int) ≤ (j : Int) := by omega
          obtain rfl : j = C := by omega
          obtain ⟨⟨v, hv⟩, hfr⟩ := (HL.out.below HBq.out).slot hlt
          have hl2 := Lib.hid ((HL.out.below HBq.out).setN hlt (RowOK.own (b0 := 0) HO.out).1 (RowOK.own HO.out).2)
          rw [Rsp.times_set _ _ _ _ _ _ hlt] at hl2
          have hgb : w.heap.size ≤ g := (HL.out.ex.choose_spec.1.lt g rfl).1
          have hgne : w.heap.size ≠ g := by omega
          have hB2 := Lib.hid (HB2.out.setCell (p := ⟨g, i, none⟩) hgb (.slice A7 L c7))
          have hb2 : Hid (Blk (wr.setCell ⟨g, i, none⟩ (.slice A7 L c7)) w.heap.size 75 #[.int .i64 R, .int .i64 j, .slice Am q k]) := (Hb.out.below HBq.out Hb.out.lt).far (p := ⟨g, i, none⟩) hgne _
          clear HO HB2 HBq HL
          go_wp2_with fail
          clear hv hfr
          go_roundw
          case rel => exact ⟨i + 1, by go_num, by omega, hB2, hb2, hl2⟩
          case measure => simp [intOf]; omega
    · have hge : (R : Int) ≤ (i : Int) := by omega
      obtain rfl : i = R := by omega
      rw [Nat.sub_self, List.replicate_zero, List.append_nil] at HL
      go_wp2_with fail
      go_ret
      exact ⟨_, _, rfl, HL.out, HB.out⟩
end Go.Proofs.YtjbedcgacnnanaaDoor
