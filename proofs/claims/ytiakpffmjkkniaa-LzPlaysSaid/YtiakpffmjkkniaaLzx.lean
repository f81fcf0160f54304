/-
  Play walked: the program's.
-/
import Derived.Test.YtiakpffmjkkniaaLzn
import Derived.Test.YtiakpffmjkkniaaLzy
namespace Go.Proofs.Ytiakpffmjkkniaa
set_option linter.unusedSimpArgs false
set_option linter.unusedVariables false
open Go.RowKit Go.Maps

/-- cells of tokens whose numbers may be any -/
def itC (t : Nat × Int × Int) : List Value := [.int .u8 (t.1 : Int), .int .i64 t.2.1, .int .i64 t.2.2]
def itsC (l : List (Nat × Int × Int)) : List Value := (l.map itC).flatten
theorem itsC_len (l : List (Nat × Int × Int)) : (itsC l).length = l.length * 3 := by
  induction l with
  | nil => rfl
  | cons a l ih =>
    rw [show itsC (a :: l) = itC a ++ itsC l by simp [itsC]]
    rw [List.length_append, ih, List.length_cons]
    simp only [itC, List.length_cons, List.length_nil]; omega
theorem itsC_at : ∀ (l : List (Nat × Int × Int)) (j f : Nat) (h : j < l.length), f < 3 → (itsC l)[j * 3 + f]? = (itC l[j])[f]?
  | a :: l, 0, f, _, hf => by
    rw [show itsC (a :: l) = itC a ++ itsC l by simp [itsC], Nat.zero_mul, Nat.zero_add, List.getElem?_append_left (by simp only [itC, List.length_cons, List.length_nil]; omega)]
    rfl
  | a :: l, j+1, f, h, hf => by
    rw [show itsC (a :: l) = itC a ++ itsC l by simp [itsC], List.getElem?_append_right (by simp only [itC, List.length_cons, List.length_nil]; omega)]
    rw [show (j + 1) * 3 + f - (itC a).length = j * 3 + f by simp only [itC, List.length_cons, List.length_nil]; omega]
    exact itsC_at l j f (by simpa using h) hf
theorem it_cells {w : World} {B n : Nat} {A : Option Addr} {l : List (Nat × Int × Int)} (h : Reads w B 3 A n (itsC l)) (j : Nat) (hj : j < l.length) : ∃ ad, A = some ad ∧ ad.block < B ∧ w.cell? (ad.add (j * 3)) = some (.int .u8 ((l[j].1 : Nat) : Int)) ∧
    w.cell? ⟨(ad.add (j * 3)).block, (ad.add (j * 3)).off + 1, none⟩ = some (.int .i64 l[j].2.1) ∧ w.cell? ⟨(ad.add (j * 3)).block, (ad.add (j * 3)).off + 2, none⟩ = some (.int .i64 l[j].2.2) := by
  have hl := h.1
  rw [itsC_len] at hl
  obtain ⟨ad, hA, hb, hc⟩ := h.2 (by omega)
  have h0 := itsC_at l j 0 hj (by omega)
  have h1 := itsC_at l j 1 hj (by omega)
  have h2 := itsC_at l j 2 hj (by omega)
  have c1 := hc _ _ h1
  have c2 := hc _ _ h2
  rw [← add_of_add, show (ad.add (j * 3)).add 1 = ⟨(ad.add (j * 3)).block, (ad.add (j * 3)).off + 1, none⟩ from rfl] at c1
  rw [← add_of_add, show (ad.add (j * 3)).add 2 = ⟨(ad.add (j * 3)).block, (ad.add (j * 3)).off + 2, none⟩ from rfl] at c2
  exact ⟨ad, hA, hb, hc _ _ (by simpa [itC] using h0), c1, c2⟩
theorem toksC_its (l : List (Nat × Nat × Nat)) : itsC (l.map Lzp.it) = toksC l := by
  unfold itsC toksC; rw [List.map_map]; rfl
/-- a row of bytes at index j -/
theorem byte_at {w : World} {base n c : Nat} {A : Option Addr} {out : List UInt8} (h : w.ownsRow base 5 1 (.slice A n c) n (out.map B8)) (j : Nat) (hj : j < n) : ∃ ad, A = some ad ∧ w.cell? (ad.add j) = some (.int .u8 ((out.getD j 0).toNat : Int)) := by
  obtain ⟨ad, hA, hc⟩ := reads_cells (Reads.of_own h) (by omega)
  have hl := h.1
  rw [List.length_map] at hl
  exact ⟨ad, hA, hc j (by omega)⟩
theorem blk_grown {w w3 : World} {base n c g8 : Nat} {A : Option Addr} {xs : List Value} {cs : Array Value} {o : Obj} (hb : Blk w g8 31 cs) (h : w.ownsRow base 5 1 (.slice A n c) n xs) (hg : (w.alloc o).grownBy w3 (A.map (·.block))) : Blk w3 g8 31 cs := by
  refine (hb.alloc o).grown hg fun e => ?_
  obtain ⟨cs', fr, hc⟩ := own_row h g8 e.symm
  have hb' : w.heap[g8]? = some (.cells cs 31) := hb
  rw [hb'] at hc
  injection hc with hc
  injection hc with _ hc
  exact absurd hc (by decide)

set_option maxRecDepth 100000 in
set_option maxHeartbeats 4000000 in
theorem play_any (A : Option Addr) (c B : Nat) (most : Int) (l : List (Nat × Int × Int)) (w : World) (h : Reads w B 3 A l.length (itsC l)) (hB : B ≤ w.heap.size) (hl : l.length ≤ 10000) (hlit : ∀ t ∈ l, t.1 < 256) (hm : most ≤ 9223372036854775807) :
    Calls Try.prog 16 #[.slice A l.length c, .int .i64 most] w fun e w' => ∃ A' c', e = .returned (.tuple #[.slice A' (Lzp.play most l).2.length c', .int .i64 (Lzp.play most l).1]) ∧ w'.ownsRow w.heap.size 5 1 (.slice A' (Lzp.play most l).2.length c') (Lzp.play most l).2.length ((Lzp.play most l).2.map B8) ∧ Below w.heap.size w w' := by
  by_cases hneg : most < 0
  · have Hv : Hid (Lzp.play most l = (13, [])) := by unfold Lzp.play; rw [if_pos hneg]; rfl
    clear h
    go_enter Try.func16, Try.ntmps16
    go_wp2_with fail
    go_ret2
    rw [Hv.out]
    exact ⟨none, 0, rfl, World.ownsRow_nil _ _ _ 1, Below.refl _ _⟩
  have H := Lib.hid h
  have HLIT := Lib.hid hlit
  have h0 : 0 ≤ most := by omega
  have Hv : Hid (Lzp.play most l = Lzp.playGo most l []) := by unfold Lzp.play; rw [if_neg hneg]; rfl
  obtain ⟨i0, hi, hz0, hz1, hz2⟩ := info_parts info_u8
  replace hi := Lib.hid hi; replace hz0 := Lib.hid hz0; replace hz1 := Lib.hid hz1; replace hz2 := Lib.hid hz2
  have hz := (zero_of_info (show (Try.prog.info? 31).map (fun i => (i.zero, i.size)) = some (some (.agg #[.int .u8 0, .int .i64 0, .int .i64 0]), 3) by kernel_rfl)).1
  clear h hlit hneg
  go_enter Try.func16, Try.ntmps16
  go_wp2_with fail
  go_loopw [6, 13] (fun v6 v13 wr => ∃ (k co : Nat) (Ao : Option Addr) (out : List UInt8), v6 = .slice Ao out.length co ∧ v13 = .int .i64 k ∧ k ≤ l.length ∧ out.length ≤ 257 * k ∧ Hid (Lzp.playGo most (l.drop k) out = Lzp.play most l) ∧ Hid (Below w.heap.size w wr) ∧ Hid (wr.ownsRow w.heap.size 5 1 (.slice Ao out.length co) out.length (out.map B8))) (fun _ v13 _ => l.length - (intOf v13).toNat)
  case atStart => exact ⟨0, 0, none, [], rfl, rfl, by omega, by simp, Hv.out.symm, Below.refl _ _, World.ownsRow_nil _ _ _ 1⟩
  case round =>
    obtain ⟨k, co, Ao, out, rfl, rfl, hk, ho, Hp, HB, HO⟩ := hrel
    by_cases hlt : k < l.length
    · have hlt' : (k : Int) < l.length := by omega
      obtain ⟨ad, rfl, hadb, y0, y1, y2⟩ := it_cells (H.out.below (HB.out.mono hB)) k hlt
      have hgs : w.heap.size ≤ wr.heap.size := HB.out.size
      have hx256 := HLIT.out l[k] (List.getElem_mem hlt)
      have Hd : Hid (l.drop k = l[k] :: l.drop (k + 1)) := List.drop_eq_getElem_cons hlt
      have Hs : Hid (Lzp.playGo most (l[k] :: l.drop (k + 1)) out = Lzp.play most l) := by rw [← Hd.out]; exact Hp.out
      clear Hd Hp
      obtain ⟨t, ht⟩ : ∃ t, t = l[k] := ⟨_, rfl⟩
      rw [← ht] at Hs y0 y1 y2 hx256
      clear ht
      obtain ⟨lt, ln, ds⟩ := t
      simp only at y0 y1 y2 hx256
      have M := fun W => Lib.hid (may_any (lt : Int) ln ds W)
      go_wp2_with fail
      have hB1 : Below w.heap.size w (wr.alloc (.cells #[.int .u8 (lt : Int), .int .i64 ln, .int .i64 ds] 31)) := HB.out.alloc hgs _
      have hO1 := own_belowL HO.out ((Below.refl wr.heap.size wr).alloc (Nat.le_refl _) (.cells #[.int .u8 (lt : Int), .int .i64 ln, .int .i64 ds] 31))
      have hb1 : Blk (wr.alloc (.cells #[.int .u8 (lt : Int), .int .i64 ln, .int .i64 ds] 31)) wr.heap.size 31 #[.int .u8 (lt : Int), .int .i64 ln, .int .i64 ds] := Blk.new _ _ _
      generalize wr.alloc (.cells #[.int .u8 (lt : Int), .int .i64 ln, .int .i64 ds] 31) = w1 at *
      generalize wr.heap.size = g8 at *
      replace hB1 := Lib.hid hB1; replace hO1 := Lib.hid hO1; replace hb1 := Lib.hid hb1
      refine (M w1).out.mono ?_; rintro e w2 ⟨rfl, hB2⟩
      have HB2 := Lib.hid (hB1.out.trans (hB2.mono hB1.out.size))
      have HO2 := Lib.hid (own_belowL hO1.out hB2)
      have Hb2 := Lib.hid (hb1.out.below hB2 hb1.out.lt)
      have x0 : w2.cell? ⟨g8, 0, none⟩ = some (.int .u8 (lt : Int)) := Hb2.out.cell 0
      have x1 : w2.cell? ⟨g8, 1, none⟩ = some (.int .i64 ln) := Hb2.out.cell 1
      have x2 : w2.cell? ⟨g8, 2, none⟩ = some (.int .i64 ds) := Hb2.out.cell 2
      have hgs2 : w.heap.size ≤ w2.heap.size := HB2.out.size
      clear hB2 hB1 hO1 hb1 HB HO M y0 y1 y2
      rw [Lzp.playGo_cons] at Hs
      simp only at Hs
      cases hmay : Lzp.mayB (lt : Int) ln ds
      · rw [if_pos hmay] at Hs
        clear hmay
        go_wp2_with fail
        go_ret2
        rw [← Hs.out]
        exact ⟨none, 0, rfl, World.ownsRow_nil _ _ _ 1, HB2.out⟩
      · rw [if_neg (by rw [hmay]; simp)] at Hs
        rcases Lzp.may_cases hmay with ⟨rfl, rfl⟩ | ⟨hlt0, hn3, hn257, hd1, hd4⟩
        · rw [if_neg (by omega)] at Hs
          clear hmay
          have hmx : max (1 : Int) 0 = 1 := rfl
          rw [hmx] at Hs
          by_cases hlim : most - (out.length : Int) < 1
          · rw [if_pos hlim] at Hs
            go_wp2_with fail
            go_ret2
            rw [← Hs.out]
            exact ⟨none, 0, rfl, World.ownsRow_nil _ _ _ 1, HB2.out⟩
          · rw [if_neg hlim, if_pos rfl] at Hs
            have hlim' : (1 : Int) ≤ most - (out.length : Int) := by omega
            go_wp2_with (at_builtin; refine wpList_append_any _ rfl (.tmp 39) (.tmp 42) 22 rfl w.heap.size 5 i0 (.int .u8 0) 1 1 Try.underlying22 hi.out hz0.out hz1.out hz2.out rfl (by omega) Ao out.length co _ rfl (HO2.out.alloc _) (w2.heap.size + 1) (some ⟨w2.heap.size, 0, none⟩) 1 1 [.int .u8 (lt : Int)] rfl (reads_one _ _ _) (one_one rfl) (by unfold maxLen; omega) (by omega) (Nat.le_trans hgs2 (by simp)) ?_; intro A3 c3 w3 ho3 hg3 _hs3; have HB3 := Lib.hid (below_app (HB2.out.alloc hgs2 (.cells #[.int .u8 (lt : Int)] 5)) hg3 (HO2.out.alloc _) (Nat.le_trans hgs2 (by simp))); clear hg3 _hs3; replace ho3 := Lib.hid ho3)
            go_roundw
            case rel =>
              refine ⟨k + 1, c3, A3, out ++ [UInt8.ofNat lt], by simp, by go_num, by omega, by simp; omega, Hs, HB3, ?_⟩
              have h := ho3.out
              rw [show (.int .u8 (lt : Int) : Value) = B8 (UInt8.ofNat lt) by unfold B8; rw [UInt8.toNat_ofNat']; congr 2; omega] at h
              simpa [Hid] using h
            case measure => simp [intOf]; omega
        · have hlt00 : lt = 0 := by omega
          subst hlt00
          obtain ⟨n, rfl⟩ : ∃ n : Nat, ln = (n : Int) := ⟨ln.toNat, by omega⟩
          obtain ⟨d, rfl⟩ : ∃ n : Nat, ds = (n : Int) := ⟨ds.toNat, by omega⟩
          clear hmay
          have hmx : max (1 : Int) (n : Int) = (n : Int) := by omega
          rw [hmx] at Hs
          by_cases hfar : (out.length : Int) < (d : Int)
          · rw [if_pos hfar] at Hs
            go_wp2_with fail
            go_ret2
            rw [← Hs.out]
            exact ⟨none, 0, rfl, World.ownsRow_nil _ _ _ 1, HB2.out⟩
          · rw [if_neg hfar] at Hs
            have hfar' : (d : Int) ≤ (out.length : Int) := by omega
            by_cases hlim : most - (out.length : Int) < (n : Int)
            · rw [if_pos hlim] at Hs
              go_wp2_with fail
              go_ret2
              rw [← Hs.out]
              exact ⟨none, 0, rfl, World.ownsRow_nil _ _ _ 1, HB2.out⟩
            · rw [if_neg hlim, if_neg (by omega), Int.toNat_natCast, Int.toNat_natCast] at Hs
              have hlim' : (n : Int) ≤ most - (out.length : Int) := by omega
              have hne : ((n : Int) == 0) = false := by rw [beq_eq_false_iff_ne]; omega
              go_wp2_with fail
              have hfd : decide (out.length < d) = false := by rw [decide_eq_false_iff_not]; omega
              simp only [hfd]
              clear hfd
              go_loopw [6, 46] (fun v6 v46 wr => ∃ (j cq : Nat) (Aq : Option Addr) (o' : List UInt8), v6 = .slice Aq o'.length cq ∧ v46 = .int .i64 j ∧ j ≤ n ∧ o'.length = out.length + j ∧ Hid (Lzp.copyN d (n - j) o' = Lzp.copyN d n out) ∧ Hid (Below w.heap.size w wr) ∧ Hid (wr.ownsRow w.heap.size 5 1 (.slice Aq o'.length cq) o'.length (o'.map B8)) ∧ Hid (Blk wr g8 31 #[.int .u8 0, .int .i64 (n : Int), .int .i64 (d : Int)])) (fun _ v46 _ => n - (intOf v46).toNat)
              case atStart => exact ⟨0, co, Ao, out, rfl, rfl, by omega, rfl, rfl, HB2, HO2, Hb2⟩
              case round =>
                obtain ⟨j, cq, Aq, o', rfl, rfl, hj, hol, Hc, HBq, HOq, Hbq⟩ := hrel
                by_cases hjn : j < n
                · have hjn' : (j : Int) < n := by omega
                  have q1 : wr.cell? ⟨g8, 1, none⟩ = some (.int .i64 (n : Int)) := Hbq.out.cell 1
                  have q2 : wr.cell? ⟨g8, 2, none⟩ = some (.int .i64 (d : Int)) := Hbq.out.cell 2
                  obtain ⟨q, hq⟩ : ∃ q, q = o'.length - d := ⟨_, rfl⟩
                  have hqd : q + d = o'.length := by omega
                  obtain ⟨adq, rfl, cq'⟩ := byte_at HOq.out q (by omega)
                  have hqx := (o'.getD q 0).toNat_lt
                  have Hc2 : Hid (Lzp.copyN d (n - (j + 1)) (o' ++ [o'.getD q 0]) = Lzp.copyN d n out) := by
                    have h := Hc.out
                    rw [show n - j = (n - (j + 1)) + 1 by omega] at h
                    rw [hq]; exact h
                  have HX : Hid (B8 (o'.getD q 0) = .int .u8 (((o'.getD q 0).toNat : Nat) : Int)) := rfl
                  generalize hx : o'.getD q 0 = x at *
                  clear hx hq
                  have r1 : IntKind.i64.wrap ((o'.length : Int) - (d : Int)) = (q : Int) := by rw [show ((o'.length : Int) - (d : Int)) = ((q : Nat) : Int) by omega, IntKind.wrap_i64]; omega
                  have r2 : (o'.length : Int) - (d : Int) = (q : Int) := by omega
                  have l1 : (q : Int) < (o'.length : Int) := by omega
                  have hgq : w.heap.size ≤ wr.heap.size := HBq.out.size
                  have hob : o'.length ≤ 257 * k + 257 := by omega
                  have Hol := Lib.hid hol
                  clear hol
                  generalize hxn : x.toNat = xn at *
                  replace hxn := Lib.hid hxn
                  go_wp2_with (at_builtin; refine wpList_append_any _ rfl (.tmp 48) (.tmp 57) 22 rfl w.heap.size 5 i0 (.int .u8 0) 1 1 Try.underlying22 hi.out hz0.out hz1.out hz2.out rfl (by omega) (some adq) o'.length cq _ rfl (HOq.out.alloc _) (wr.heap.size + 1) (some ⟨wr.heap.size, 0, none⟩) 1 1 [.int .u8 (xn : Int)] rfl (reads_one _ _ _) (one_one rfl) (by unfold maxLen; omega) (by omega) (Nat.le_trans hgq (by simp)) ?_; intro A3 c3 w3 ho3 hg3 _hs3; have HB3 := Lib.hid (below_app (HBq.out.alloc hgq (.cells #[.int .u8 (xn : Int)] 5)) hg3 (HOq.out.alloc _) (Nat.le_trans hgq (by simp))); have Hb3 := Lib.hid (blk_grown Hbq.out HOq.out hg3); clear hg3 _hs3; replace ho3 := Lib.hid ho3)
                  go_roundw
                  case rel =>
                    refine ⟨j + 1, c3, A3, o' ++ [x], by simp, by go_num, by omega, by have := Hol.out; simp; omega, Hc2, HB3, ?_, Hb3⟩
                    have h := ho3.out
                    rw [← HX.out] at h
                    simpa [Hid] using h
                  case measure => simp [intOf]; omega
                · have hjn2 : j = n := by omega
                  have hge : (n : Int) ≤ (j : Int) := by omega
                  have He : Hid (o' = Lzp.copyN d n out) := by
                    have h := Hc.out
                    rw [hjn2, Nat.sub_self] at h; exact h
                  rw [← He.out] at Hs
                  go_wp2_with fail
                  go_roundw
                  case rel => exact ⟨k + 1, cq, Aq, o', rfl, by go_num, by omega, by omega, Hs, HBq, HOq⟩
                  case measure => simp [intOf]; omega
    · have hkl : k = l.length := by omega
      have hge : (l.length : Int) ≤ (k : Int) := by omega
      have He : Hid (Lzp.play most l = (0, out)) := by
        have h := Hp.out
        rw [hkl, List.drop_length] at h
        exact h.symm
      go_wp2_with fail
      go_ret2
      rw [He.out]
      exact ⟨Ao, co, rfl, HO.out, HB.out⟩
end Go.Proofs.Ytiakpffmjkkniaa
