/-
  Find walked: the tokens of any bytes.
-/
import Derived.Test.YtiakpffmjkkniaaLzb
namespace Go.Proofs.Ytiakpffmjkkniaa
set_option linter.unusedSimpArgs false
set_option linter.unusedVariables false
open Go.RowKit Go.Maps

/-- a token's cells; tokens' cells -/
def tokC (t : Nat × Nat × Nat) : List Value := [.int .u8 (t.1 : Int), .int .i64 (t.2.1 : Int), .int .i64 (t.2.2 : Int)]
def toksC (l : List (Nat × Nat × Nat)) : List Value := (l.map tokC).flatten
theorem toksC_append (a b : List (Nat × Nat × Nat)) : toksC (a ++ b) = toksC a ++ toksC b := by simp [toksC]
theorem toksC_one (t : Nat × Nat × Nat) : toksC [t] = tokC t := by simp [toksC]
theorem info_tok : (Try.prog.info? 31).map (fun i => (i.zero, i.size, i.bytes)) = some (some (.agg #[.int .u8 0, .int .i64 0, .int .i64 0]), 3, 24) := by kernel_rfl
theorem info_toks : (Try.prog.info? 31).map (·.size) = some 3 := by kernel_rfl
theorem tok_one (t : Nat × Nat × Nat) : ∀ u ∈ tokC t, u.oneCell' = true := by
  intro u hu
  simp only [tokC, List.mem_cons, List.mem_nil_iff, or_false] at hu
  rcases hu with rfl | rfl | rfl <;> rfl
theorem reads_tok (w : World) (t : Nat × Nat × Nat) (ty : TypeId) : Reads (w.alloc (.cells (tokC t).toArray ty)) (w.heap.size + 1) 3 (some ⟨w.heap.size, 0, none⟩) 1 (tokC t) := by
  refine ⟨rfl, fun _ => ⟨_, rfl, Nat.lt_succ_self _, fun j u hu => ?_⟩⟩
  have e : (⟨w.heap.size, 0, none⟩ : Addr).add j = ⟨w.heap.size, j, none⟩ := by unfold Addr.add; split <;> simp_all
  rw [e, (Blk.new w ty (tokC t).toArray).cell j]
  simpa using hu
theorem own_keepT {w w' : World} {base n c : Nat} {A : Option Addr} {xs : List Value} (h : w.ownsRow base 31 3 (.slice A n c) n xs) (hk : KeepT w w') : w'.ownsRow base 31 3 (.slice A n c) n xs := by
  refine ownsRow_block h fun a ha => ?_
  obtain ⟨cs, fr, hc⟩ := own_row h a.block (by rw [ha]; rfl)
  rw [hk _ _ _ _ hc (by decide) (by decide), hc]
theorem own_belowL {w w' : World} {base n c size : Nat} {e : TypeId} {A : Option Addr} {xs : List Value} (h : w.ownsRow base e size (.slice A n c) n xs) (hk : Below w.heap.size w w') : w'.ownsRow base e size (.slice A n c) n xs := by
  refine ownsRow_block h fun a ha => hk.block _ ?_
  obtain ⟨cs, fr, hc⟩ := own_row h a.block (by rw [ha]; rfl)
  exact lt_of_heap hc

/-- all that is no row of tokens stands as it stood -/
def KeepO (w w' : World) : Prop := ∀ (k : Nat) (o : Obj), w.heap[k]? = some o → (∀ (cs : Array Value) (fr : Nat × Nat), o ≠ .cells cs 31 fr) → w'.heap[k]? = some o
theorem Chn.keep {w w' : World} {base g m M c : Nat} {A : Option Addr} {bs : List UInt8} (h : Chn w base g bs m M A c) (hk : KeepO w w') : Chn w' base g bs m M A c := by
  obtain ⟨h1, h2, h3, h4, h5⟩ := h
  refine ⟨hk g _ h1 (fun cs fr e => by injection e with _ e; exact absurd e (by decide)), h2, h3, ?_, ownsRow_block h5 fun a ha => ?_⟩
  · obtain ⟨es, cl, hm⟩ := own_map h4
    exact ownsMap_block h4 ((hk M _ hm (fun cs fr e => by cases e)).trans hm.symm)
  · obtain ⟨cs, fr, hc⟩ := own_row h5 a.block (by rw [ha]; rfl)
    exact (hk _ _ hc (fun cs fr e => by injection e with _ e; exact absurd e (by decide))).trans hc.symm
theorem keepO_setRow {w : World} {g6 : Nat} {cs : Array Value} (hb : Blk w g6 31 cs) (ds : Array Value) : KeepO w (w.setRow g6 ds) := fun k o hk ho => by
  have hne : k ≠ g6 := by
    rintro rfl
    have hb' : w.heap[k]? = some (.cells cs 31) := hb
    rw [hb'] at hk
    injection hk with hk
    exact ho _ _ hk.symm
  exact (setRow_other w g6 k ds hne).trans hk
theorem keepO_grown {w w' : World} {base n c : Nat} {A : Option Addr} {xs : List Value} (h : w.ownsRow base 31 3 (.slice A n c) n xs) (hg : w.grownBy w' (A.map (·.block))) : KeepO w w' := fun k o hk ho => by
  refine (hg.block k (lt_of_heap hk) fun e => ?_).trans hk
  obtain ⟨cs, fr, hc⟩ := own_row h k e.symm
  rw [hc] at hk
  injection hk with hk
  exact ho _ _ hk.symm
theorem keepO_alloc (w : World) (o : Obj) : KeepO w (w.alloc o) := fun k _ hk _ => (heap_alloc_old w o (lt_of_heap hk)).trans hk
theorem KeepO.trans {a b c : World} (h : KeepO a b) (h' : KeepO b c) : KeepO a c := fun k o hk ho => h' k o (h k o hk ho) ho
theorem own_setRow {w : World} {base n c size g6 : Nat} {e : TypeId} {A : Option Addr} {xs : List Value} (h : w.ownsRow base e size (.slice A n c) n xs) (hne : ∀ a, A = some a → a.block ≠ g6) (ds : Array Value) : (w.setRow g6 ds).ownsRow base e size (.slice A n c) n xs :=
  ownsRow_block h fun a ha => setRow_other w g6 a.block ds (hne a ha)
theorem fin3 {w W w3 : World} {b0 g i M cp m co : Nat} {Ap Ao : Option Addr} {bs : List UInt8} {xs : List Value} {o : Obj} (hB : Below b0 w W) (hb0 : b0 ≤ W.heap.size) (hC : Chn W b0 g bs i M Ap cp) (hO : W.ownsRow b0 31 3 (.slice Ao m co) m xs)
    (hg : (W.alloc o).grownBy w3 (Ao.map (·.block))) : Below b0 w w3 ∧ Chn w3 b0 g bs i M Ap cp :=
  ⟨below_app (hB.alloc hb0 o) hg (hO.alloc o) (Nat.le_trans hb0 (by simp)), hC.keep ((keepO_alloc W o).trans (keepO_grown (hO.alloc o) hg))⟩

set_option maxRecDepth 100000 in
set_option maxHeartbeats 2000000 in
theorem find_any (A : Option Addr) (n c B : Nat) (bs : List UInt8) (w : World) (h : Reads w B 1 A n (bs.map B8)) (hB : B ≤ w.heap.size) (hn : n < 4294967296) :
    Calls Try.prog 11 #[.slice A n c] w fun e w' => ∃ A' c', e = .returned (.slice A' (Lzp.find bs).length c') ∧ w'.ownsRow w.heap.size 31 3 (.slice A' (Lzp.find bs).length c') (Lzp.find bs).length (toksC (Lzp.find bs)) ∧ Below w.heap.size w w' := by
  have hl := h.len
  have H := Lib.hid h
  have L := Lib.hid hl
  obtain ⟨i0, hin, hz0, hz1, hz2⟩ := info_parts info_tok
  replace hin := Lib.hid hin; replace hz0 := Lib.hid hz0; replace hz1 := Lib.hid hz1; replace hz2 := Lib.hid hz2
  have hz := (zero_of_info (show (Try.prog.info? 31).map (fun i => (i.zero, i.size)) = some (some (.agg #[.int .u8 0, .int .i64 0, .int .i64 0]), 3) by kernel_rfl)).1
  have hmm := @run_makeMap Try.prog
  clear h hl
  go_enter Try.func11, Try.ntmps11
  go_wp2_with fail
  have hC0 : Chn ((w.alloc (.map #[] 0)).alloc (.cells #[.map (some w.heap.size), .slice none 0 0] 46)) w.heap.size (w.heap.size + 1) bs 0 w.heap.size none 0 :=
    ⟨(by simpa using Blk.new (w.alloc (.map #[] 0)) 46 #[.map (some w.heap.size), .slice none 0 0]), Nat.le_succ _, Nat.le_refl _, (World.ownsMap_made w Try.prog 52 _).alloc _, World.ownsRow_nil _ _ _ 1⟩
  have hB0 : Below w.heap.size w ((w.alloc (.map #[] 0)).alloc (.cells #[.map (some w.heap.size), .slice none 0 0] 46)) := ((Below.refl _ _).alloc (Nat.le_refl _) _).alloc (by simp) _
  generalize ((w.alloc (.map #[] 0)).alloc (.cells #[.map (some w.heap.size), .slice none 0 0] 46)) = w0 at *
  replace hC0 := Lib.hid hC0; replace hB0 := Lib.hid hB0
  clear hmm
  go_loopw [4, 5] (fun v4 v5 wr => ∃ (i co : Nat) (Ao : Option Addr) (done : List (Nat × Nat × Nat)), v4 = .slice Ao done.length co ∧ v5 = .int .i64 i ∧ i ≤ n ∧ done.length ≤ i ∧ Hid (done ++ Lzp.from_ bs i = Lzp.find bs) ∧ Hid (Below w.heap.size w wr) ∧ Hid (∃ Ap cp, Chn wr w.heap.size (w.heap.size + 1) bs i w.heap.size Ap cp) ∧ Hid (wr.ownsRow w.heap.size 31 3 (.slice Ao done.length co) done.length (toksC done))) (fun _ v5 _ => n - (intOf v5).toNat)
  case atStart => exact ⟨0, 0, none, [], rfl, rfl, by omega, Nat.le_refl _, rfl, hB0, ⟨none, 0, hC0.out⟩, World.ownsRow_nil _ _ _ 3⟩
  case round =>
    obtain ⟨i, co, Ao, done, rfl, rfl, hi, hd, Hf, HB, HC, HO⟩ := hrel
    by_cases hlt : i < n
    · have hlt' : (i : Int) < n := by omega
      obtain ⟨Ap, cp, hC⟩ := HC.out
      replace hC := Lib.hid hC
      clear HC
      have hRd : Reads wr B 1 A n (bs.map B8) := H.out.below (HB.out.mono hB)
      obtain ⟨ad, rfl, hcell⟩ := reads_cells hRd (by omega)
      have cx := hcell i (by rw [L.out]; exact hlt)
      have hx := (bs.getD i 0).toNat_lt
      have Hx : Hid (∃ x, x = (bs.getD i 0).toNat) := ⟨_, rfl⟩
      generalize hxe : (bs.getD i 0).toNat = x at *
      replace hxe := Lib.hid hxe
      clear hcell hRd Hx
      have hgs : w.heap.size ≤ wr.heap.size := HB.out.size
      have hne : ∀ a, Ao = some a → a.block ≠ wr.heap.size := fun a ha e => by
        obtain ⟨cs, fr, hc⟩ := own_row HO.out a.block (by rw [ha]; rfl)
        have := lt_of_heap hc
        omega
      replace hne := Lib.hid hne
      go_wp2_with fail
      have hB1 : Below w.heap.size w (wr.alloc (.cells #[.int .u8 (x : Int), .int .i64 0, .int .i64 0] 31)) := HB.out.alloc hgs _
      have hC1 : Chn (wr.alloc (.cells #[.int .u8 (x : Int), .int .i64 0, .int .i64 0] 31)) w.heap.size (w.heap.size + 1) bs i w.heap.size Ap cp := hC.out.below ((Below.refl _ _).alloc (Nat.le_refl _) _)
      have hO1 := own_belowL HO.out ((Below.refl wr.heap.size wr).alloc (Nat.le_refl _) (.cells #[.int .u8 (x : Int), .int .i64 0, .int .i64 0] 31))
      have hb1 : Blk (wr.alloc (.cells #[.int .u8 (x : Int), .int .i64 0, .int .i64 0] 31)) wr.heap.size 31 #[.int .u8 (x : Int), .int .i64 0, .int .i64 0] := Blk.new _ _ _
      generalize wr.alloc (.cells #[.int .u8 (x : Int), .int .i64 0, .int .i64 0] 31) = w1 at *
      generalize wr.heap.size = g6 at *
      replace hB1 := Lib.hid hB1; replace hC1 := Lib.hid hC1; replace hO1 := Lib.hid hO1; replace hb1 := Lib.hid hb1
      refine (longest_any (some ad) n c B w.heap.size i (w.heap.size + 1) w.heap.size cp Ap bs w1 (H.out.below (hB1.out.mono hB)) (Nat.le_trans hB hB1.out.size) hi (by omega) hC1.out).mono ?_
      rintro e w2 ⟨n1, d1, hN, rfl, hB2⟩
      have HB2 := Lib.hid (hB1.out.trans (hB2.mono hB1.out.size))
      have HC2 := Lib.hid (hC1.out.below hB2)
      have HO2 := Lib.hid (own_belowL hO1.out hB2)
      have Hb2 := Lib.hid (hb1.out.below hB2 hb1.out.lt)
      replace hN := Lib.hid hN
      clear hB2 hB1 hC1 hO1 hb1 HB HO hC
      by_cases h3 : 3 ≤ n1
      · have h3' : (3 : Int) ≤ n1 := by omega
        have hN2 : Hid (3 ≤ (Lzp.tok bs i).1 ∧ (Lzp.tok bs i) = (n1, d1)) := by
          rcases hN.out with ⟨h, e⟩ | ⟨_, e⟩
          · exact ⟨h, e.symm⟩
          · injection e with e1 _; omega
        have HS : Hid (Lzp.step bs i = n1) := by
          unfold Lzp.step; rw [if_pos hN2.out.1, hN2.out.2]; rfl
        have H1 : Hid (Lzp.one bs i = (0, n1, d1)) := by
          unfold Lzp.one; rw [if_pos hN2.out.1, hN2.out.2]; rfl
        have Hend : i + n1 ≤ n := by
          have h := Lzp.step_end bs i (by rw [L.out]; exact hlt)
          rw [HS.out, L.out] at h; exact h
        have hs1 : 1 ≤ n1 := by omega
        have hsz : (w2.setRow g6 #[.int .u8 0, .int .i64 (n1 : Int), .int .i64 (d1 : Int)]).heap.size = w2.heap.size := by rw [size_setRow]
        have HBW : Hid (Below w.heap.size w (w2.setRow g6 #[.int .u8 0, .int .i64 (n1 : Int), .int .i64 (d1 : Int)])) := below_row HB2.out hgs _
        have HCW : Hid (Chn (w2.setRow g6 #[.int .u8 0, .int .i64 (n1 : Int), .int .i64 (d1 : Int)]) w.heap.size (w.heap.size + 1) bs i w.heap.size Ap cp) := HC2.out.keep (keepO_setRow Hb2.out _)
        have HOW : Hid ((w2.setRow g6 #[.int .u8 0, .int .i64 (n1 : Int), .int .i64 (d1 : Int)]).ownsRow w.heap.size 31 3 (.slice Ao done.length co) done.length (toksC done)) := own_setRow HO2.out hne.out _
        have HbW : Hid (Blk (w2.setRow g6 #[.int .u8 0, .int .i64 (n1 : Int), .int .i64 (d1 : Int)]) g6 31 #[.int .u8 0, .int .i64 (n1 : Int), .int .i64 (d1 : Int)]) := Hb2.out.row _
        go_wp2_with (first
          | (refine wpList_load_row rfl 31 _ rfl g6 rfl 31 #[.int .u8 0, .int .i64 (n1 : Int), .int .i64 (d1 : Int)] (0, 0) _ HbW.out Try.underlying31 rfl info_toks ?_)
          | (refine wpList_store_row rfl 31 _ _ rfl g6 #[.int .u8 0, .int .i64 (n1 : Int), .int .i64 (d1 : Int)] rfl rfl 31 #[.int .u8 (x : Int), .int .i64 0, .int .i64 0] Hb2.out info_toks rfl (by simp [Value.oneCell']) ?_)
          | (at_builtin; refine wpList_append_any _ rfl (.tmp 35) (.tmp 37) 25 rfl w.heap.size 31 i0 (.agg #[.int .u8 0, .int .i64 0, .int .i64 0]) 3 24 Try.underlying25 hin.out hz0.out hz1.out hz2.out rfl (by omega) Ao done.length co _ rfl (HOW.out.alloc _) ((w2.setRow g6 #[.int .u8 0, .int .i64 (n1 : Int), .int .i64 (d1 : Int)]).heap.size + 1) (some ⟨(w2.setRow g6 #[.int .u8 0, .int .i64 (n1 : Int), .int .i64 (d1 : Int)]).heap.size, 0, none⟩) 1 1 (tokC (0, n1, d1)) (by first | rfl | (rw [hsz]; rfl)) (reads_tok _ (0, n1, d1) _) (tok_one _) (by unfold maxLen; omega) (by omega) (Nat.le_trans HBW.out.size (by simp)) ?_; intro A3 c3 w3 ho3 hg3 _hs3; have F3 := Lib.hid (fin3 HBW.out HBW.out.size HCW.out HOW.out hg3); clear hg3 _hs3; replace ho3 := Lib.hid ho3))
        have Hdone : Hid ((done ++ [(0, n1, d1)]) ++ Lzp.from_ bs (i + n1) = Lzp.find bs) := by
          have h := Hf.out
          rw [Lzp.from_step bs i (by rw [L.out]; exact hlt), H1.out, HS.out] at h
          rw [List.append_assoc]; exact h
        have HO3 : Hid (w3.ownsRow w.heap.size 31 3 (.slice A3 (done.length + 1) c3) (done.length + 1) (toksC (done ++ [(0, n1, d1)]))) := by
          rw [toksC_append, toksC_one]; exact ho3.out
        clear ho3 HBW HCW HOW HbW hsz HB2 HC2 HO2 Hb2 hne Hf hN hN2 H1 HS
        go_loopw [5, 40] (fun v5 v40 wr => ∃ (k cq : Nat) (Aq : Option Addr), v5 = .int .i64 ((i + k : Nat) : Int) ∧ v40 = .int .i64 k ∧ k ≤ n1 ∧ Hid (Below w.heap.size w wr) ∧ Hid (Chn wr w.heap.size (w.heap.size + 1) bs (i + k) w.heap.size Aq cq) ∧ Hid (wr.ownsRow w.heap.size 31 3 (.slice A3 (done.length + 1) c3) (done.length + 1) (toksC (done ++ [(0, n1, d1)])))) (fun _ v40 _ => n1 - (intOf v40).toNat)
        case atStart => exact ⟨0, cp, Ap, rfl, rfl, by omega, F3.out.1, F3.out.2, HO3⟩
        case round =>
          obtain ⟨k, cq, Aq, rfl, rfl, hk, HBq, HCq, HOq⟩ := hrel
          by_cases hkl : k < n1
          · have hkl' : (k : Int) < (n1 : Nat) := by omega
            have Hadd := Lib.hid (add_any (some ad) n c B w.heap.size (i + k) (w.heap.size + 1) w.heap.size cq Aq bs wr (H.out.below (HBq.out.mono hB)) hB HBq.out.size (by omega) hn HCq.out)
            go_wp2_with fail
            refine Hadd.out.mono ?_; rintro e w4 ⟨⟨v, rfl⟩, ⟨A4, c4, hC4⟩, hB4, hT4⟩
            have HB4 := Lib.hid (HBq.out.trans hB4)
            have HO4 := Lib.hid (own_keepT HOq.out hT4)
            replace hC4 := Lib.hid hC4
            clear hB4 hT4 HBq HOq HCq Hadd
            go_wp2_with fail
            go_roundw
            case rel => exact ⟨k + 1, c4, A4, by go_num, by go_num, by omega, HB4, hC4, HO4⟩
            case measure => simp [intOf]; omega
          · have hk1 : n1 = k := by omega
            subst hk1
            go_wp2_with fail
            go_roundw
            case rel => exact ⟨i + n1, c3, A3, done ++ [(0, n1, d1)], by simp, by go_num, by omega, by simp; omega, Hdone, HBq, ⟨_, _, HCq.out⟩, by simpa [Hid] using HOq.out⟩
            case measure => simp [intOf]; omega
      · have h3' : (n1 : Int) < 3 := by omega
        have hN2 : Hid ((Lzp.tok bs i).1 < 3) := by
          rcases hN.out with ⟨h, e⟩ | ⟨h, _⟩
          · rw [← e] at h; exact absurd h h3
          · exact h
        have HS : Hid (Lzp.step bs i = 1) := by
          unfold Lzp.step; rw [if_neg (by have := hN2.out; omega)]; rfl
        have H1 : Hid (Lzp.one bs i = (x, 0, 0)) := by
          unfold Lzp.one; rw [if_neg (by have := hN2.out; omega), hxe.out]; rfl
        have Hend : i + 1 ≤ n := by
          have h := Lzp.step_end bs i (by rw [L.out]; exact hlt)
          rw [HS.out, L.out] at h; exact h
        have hs1 : 1 ≤ 1 := by omega
        have hsz : (w2).heap.size = w2.heap.size := rfl
        have HBW : Hid (Below w.heap.size w (w2)) := HB2.out
        have HCW : Hid (Chn (w2) w.heap.size (w.heap.size + 1) bs i w.heap.size Ap cp) := HC2.out
        have HOW : Hid ((w2).ownsRow w.heap.size 31 3 (.slice Ao done.length co) done.length (toksC done)) := HO2.out
        have HbW : Hid (Blk (w2) g6 31 #[.int .u8 (x : Int), .int .i64 0, .int .i64 0]) := Hb2.out
        go_wp2_with (first
          | (refine wpList_load_row rfl 31 _ rfl g6 rfl 31 #[.int .u8 (x : Int), .int .i64 0, .int .i64 0] (0, 0) _ HbW.out Try.underlying31 rfl info_toks ?_)
          | (refine wpList_store_row rfl 31 _ _ rfl g6 #[.int .u8 0, .int .i64 (n1 : Int), .int .i64 (d1 : Int)] rfl rfl 31 #[.int .u8 (x : Int), .int .i64 0, .int .i64 0] Hb2.out info_toks rfl (by simp [Value.oneCell']) ?_)
          | (at_builtin; refine wpList_append_any _ rfl (.tmp 35) (.tmp 37) 25 rfl w.heap.size 31 i0 (.agg #[.int .u8 0, .int .i64 0, .int .i64 0]) 3 24 Try.underlying25 hin.out hz0.out hz1.out hz2.out rfl (by omega) Ao done.length co _ rfl (HOW.out.alloc _) ((w2).heap.size + 1) (some ⟨(w2).heap.size, 0, none⟩) 1 1 (tokC (x, 0, 0)) (by first | rfl | (rw [hsz]; rfl)) (reads_tok _ (x, 0, 0) _) (tok_one _) (by unfold maxLen; omega) (by omega) (Nat.le_trans HBW.out.size (by simp)) ?_; intro A3 c3 w3 ho3 hg3 _hs3; have F3 := Lib.hid (fin3 HBW.out HBW.out.size HCW.out HOW.out hg3); clear hg3 _hs3; replace ho3 := Lib.hid ho3))
        have Hdone : Hid ((done ++ [(x, 0, 0)]) ++ Lzp.from_ bs (i + 1) = Lzp.find bs) := by
          have h := Hf.out
          rw [Lzp.from_step bs i (by rw [L.out]; exact hlt), H1.out, HS.out] at h
          rw [List.append_assoc]; exact h
        have HO3 : Hid (w3.ownsRow w.heap.size 31 3 (.slice A3 (done.length + 1) c3) (done.length + 1) (toksC (done ++ [(x, 0, 0)]))) := by
          rw [toksC_append, toksC_one]; exact ho3.out
        clear ho3 HBW HCW HOW HbW hsz HB2 HC2 HO2 Hb2 hne Hf hN hN2 H1 HS
        go_loopw [5, 40] (fun v5 v40 wr => ∃ (k cq : Nat) (Aq : Option Addr), v5 = .int .i64 ((i + k : Nat) : Int) ∧ v40 = .int .i64 k ∧ k ≤ 1 ∧ Hid (Below w.heap.size w wr) ∧ Hid (Chn wr w.heap.size (w.heap.size + 1) bs (i + k) w.heap.size Aq cq) ∧ Hid (wr.ownsRow w.heap.size 31 3 (.slice A3 (done.length + 1) c3) (done.length + 1) (toksC (done ++ [(x, 0, 0)])))) (fun _ v40 _ => 1 - (intOf v40).toNat)
        case atStart => exact ⟨0, cp, Ap, rfl, rfl, by omega, F3.out.1, F3.out.2, HO3⟩
        case round =>
          obtain ⟨k, cq, Aq, rfl, rfl, hk, HBq, HCq, HOq⟩ := hrel
          by_cases hkl : k < 1
          · have hkl' : (k : Int) < (1 : Nat) := by omega
            have Hadd := Lib.hid (add_any (some ad) n c B w.heap.size (i + k) (w.heap.size + 1) w.heap.size cq Aq bs wr (H.out.below (HBq.out.mono hB)) hB HBq.out.size (by omega) hn HCq.out)
            go_wp2_with fail
            refine Hadd.out.mono ?_; rintro e w4 ⟨⟨v, rfl⟩, ⟨A4, c4, hC4⟩, hB4, hT4⟩
            have HB4 := Lib.hid (HBq.out.trans hB4)
            have HO4 := Lib.hid (own_keepT HOq.out hT4)
            replace hC4 := Lib.hid hC4
            clear hB4 hT4 HBq HOq HCq Hadd
            go_wp2_with fail
            go_roundw
            case rel => exact ⟨k + 1, c4, A4, by go_num, by go_num, by omega, HB4, hC4, HO4⟩
            case measure => simp [intOf]; omega
          · have hk1 : k = 1 := by omega
            subst hk1
            go_wp2_with fail
            go_roundw
            case rel => exact ⟨i + 1, c3, A3, done ++ [(x, 0, 0)], by simp, by go_num, by omega, by simp; omega, Hdone, HBq, ⟨_, _, HCq.out⟩, by simpa [Hid] using HOq.out⟩
            case measure => simp [intOf]; omega
    · obtain rfl : i = n := by omega
      have He : Hid (done = Lzp.find bs) := by
        have h := Hf.out
        rw [Lzp.from_end bs i (by rw [L.out]; exact Nat.le_refl _), List.append_nil] at h
        exact h
      go_wp2_with fail
      go_ret
      have e := He.out
      subst e
      exact ⟨Ao, co, rfl, HO.out, HB.out⟩
end Go.Proofs.Ytiakpffmjkkniaa
