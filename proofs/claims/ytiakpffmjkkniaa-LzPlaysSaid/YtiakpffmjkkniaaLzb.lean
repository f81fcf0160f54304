/-
  add walked: one more place in the chains.
-/
import Derived.Test.YtiakpffmjkkniaaLza
namespace Go.Proofs.Ytiakpffmjkkniaa
set_option linter.unusedSimpArgs false
set_option linter.unusedVariables false
open Go.RowKit Go.Maps

theorem below_drewN {B : Nat} {a w : World} (h : Below B a w) (n : Nat) : Below B a (w.drewN n) := ⟨h.os, h.tape, h.output, h.size, h.block⟩
theorem chn_of_first {w : World} {base g m M c : Nat} {A : Option Addr} {bs : List UInt8} {v : Int} (h : Chn1 w base g bs m M A c v) (hv : Lzp.prev bs m = v) (hm : bs.length < m + 3) : Chn w base g bs (m + 1) M A c := by
  obtain ⟨h1, h2, h3, h4, h5⟩ := h
  refine ⟨h1, h2, h3, ?_, ?_⟩
  · have e : places bs (m + 1) = places bs m := by unfold places; rw [if_neg (by omega)]; cases m <;> rfl
    rw [e]; exact h4.mono (Nat.le_succ m)
  · rw [Lzp.prevs_succ, List.map_append, hv]; exact h5

/-- behind the map's store -/
theorem chn_last {w w' : World} {base g m M c : Nat} {A : Option Addr} {bs : List UInt8} {v : Int} (h : Chn1 w base g bs m M A c v) (hv : Lzp.prev bs m = v)
    (ho : w'.ownsMap Try.prog 52 (plainElem (H := Unit) Try.prog 3) M (m + 1) (places bs (m + 1))) (hg : w.grownBy w' (some M)) : Chn w' base g bs (m + 1) M A c := by
  obtain ⟨h1, h2, h3, h4, h5⟩ := h
  refine ⟨h1.grown hg (fun e => ne_of_map h1 h4 (Option.some.inj e)), h2, h3, ho, ?_⟩
  rw [Lzp.prevs_succ, List.map_append, hv]
  refine ownsRow_block h5 fun a ha => hg.block _ ?_ ?_
  · obtain ⟨cs, fr, hc⟩ := own_row h5 a.block (by rw [ha]; rfl)
    exact lt_of_heap hc
  · intro e
    exact row_ne_map h5 h4 (by rw [ha]; exact e)
theorem chn1_store {w : World} {base g m M c gp : Nat} {bs : List UInt8} {v : Int} (u : Int) (h : Chn1 w base g bs m M (some ⟨gp, 0, none⟩) c v) : Chn1 (w.setCell ⟨gp, m, none⟩ (.int .i64 u)) base g bs m M (some ⟨gp, 0, none⟩) c u ∧ KeepT w (w.setCell ⟨gp, m, none⟩ (.int .i64 u)) ∧ base ≤ gp := by
  obtain ⟨h1, h2, h3, h4, h5⟩ := h
  have hne : some g ≠ some gp := ne_of_row h1 h5
  have hnm : some gp ≠ some M := row_ne_map h5 h4
  obtain ⟨cs, fr, hc⟩ := own_row h5 gp rfl
  refine ⟨⟨h1.far (p := ⟨gp, m, none⟩) (fun e => hne (congrArg some e)) _, h2, h3, h4.setCell (a := ⟨gp, m, none⟩) (fun e => hnm (congrArg some e.symm)) _, ?_⟩, KeepT.setCell hc (.inr rfl) _ _, ?_⟩
  · have h := (h5.stored m (.int .i64 u)).1
    rw [List.set_append_right _ _ (by simp [Lzp.prevs_len])] at h
    simpa [Lzp.prevs_len, I64] using h
  · rcases h5.2 with ⟨h0, _⟩ | ⟨g', _, _, hv, hg, _⟩
    · cases h0
    · simp only [Value.slice.injEq, Option.some.injEq, Addr.mk.injEq, and_true] at hv
      omega

set_option maxRecDepth 100000 in
set_option maxHeartbeats 1000000 in
theorem add_any (A : Option Addr) (n c B base i g M cp : Nat) (Ap : Option Addr) (bs : List UInt8) (w : World) (h : Reads w B 1 A n (bs.map B8)) (hB : B ≤ base) (hbase : base ≤ w.heap.size) (hi : i < n) (hn : n < 4294967296) (hC : Chn w base g bs i M Ap cp) :
    Calls Try.prog 20 #[.pointer (some ⟨g, 0, none⟩), .slice A n c, .int .i64 i] w fun e w' => (∃ v, e = .returned v) ∧ (∃ A' c', Chn w' base g bs (i + 1) M A' c') ∧ Below base w w' ∧ KeepT w w' := by
  have hl := h.len
  have C := Lib.hid hC
  have H := Lib.hid h
  have L := Lib.hid hl
  obtain ⟨i0, hin, hz0, hz1, hz2⟩ := info_parts info_int
  replace hin := Lib.hid hin; replace hz0 := Lib.hid hz0; replace hz1 := Lib.hid hz1; replace hz2 := Lib.hid hz2
  have g1 : w.cell? ⟨g, 1, none⟩ = some (.slice Ap i cp) := C.out.1.cell 1
  have hb1 : i + 1 ≤ maxLen := by unfold maxLen; omega
  have hb2 : (i + 1) * 8 ≤ 140737488355328 := by omega
  clear hC h hl
  by_cases hs : n < i + 3
  · have hs' : (n : Int) < (i : Int) + 3 := by omega
    have Hp : Hid (Lzp.prev bs i = -1) := by unfold Lzp.prev; rw [if_neg (by rw [L.out]; omega)]; rfl
    go_enter Try.func20, Try.ntmps20
    go_wp2_with (at_builtin; refine wpList_append_any _ rfl (.tmp 13) (.tmp 14) 44 rfl base 3 i0 (.int .i64 0) 1 8 Try.underlying44 hin.out hz0.out hz1.out hz2.out rfl (by omega) Ap i cp _ rfl (C.out.2.2.2.2.alloc _) (w.heap.size + 1) (some ⟨w.heap.size, 0, none⟩) 1 1 [.int .i64 (-1)] rfl (reads_one _ _ _) (one_one rfl) hb1 hb2 (Nat.le_trans hbase (by simp)) ?_; intro A1 c1 w2 ho1 hg1 _hs1; have F := Lib.hid (chn_first C.out hbase ho1 hg1); have f1 := F.out.2.2.2.frozen 1; have z1 : w2.cell? ⟨g, 1, none⟩ = some (.slice Ap i cp) := F.out.2.2.2.cell 1; clear ho1 hg1 _hs1)
    exact bodyPost_ret (v := .tuple #[]) (by simp [results, Try.results20, go_sem]) rfl ⟨⟨_, rfl⟩, ⟨A1, c1, chn_of_first F.out.1 Hp.out (by rw [L.out]; omega)⟩, F.out.2.1, F.out.2.2.1⟩
  · have hs' : (i : Int) + 3 ≤ n := by omega
    have K : Hid (∀ W, Below base w W → base ≤ W.heap.size → Calls Try.prog 21 #[.slice A n c, .int .i64 i] W fun e w' => e = .returned (k3 (Lzp.key bs i)) ∧ Below W.heap.size W w') := fun W hW hW2 =>
      key_any A n c B i bs W (H.out.below (hW.mono hB)) (Nat.le_trans hB hW2) (by omega) (by omega)
    have HL : Hid (∀ (W : World) (A1 : Option Addr) (c1 q : Nat) (v : Int), Chn1 W base g bs i M A1 c1 v → (Instr.lookup 43 (.map (some M)) (k3 (Lzp.key bs i)) true).run Try.prog (W.drewN q) = .ok (.tuple #[.int .i64 (((Lzp.last bs i (Lzp.key bs i)).getD 0 : Nat) : Int), .bool (Lzp.last bs i (Lzp.key bs i)).isSome]) (W.drewN q)) := fun W A1 c1 q v hW =>
      look_eq hW.2.2.2.1 (show (W.drewN q).heap[M]? = W.heap[M]? from rfl) _
    have hz := (zero_of_info info_3).1
    obtain ⟨x0, x1, x2, hk⟩ : ∃ x0 x1 x2 : Nat, k3 (Lzp.key bs i) = .agg #[.int .u8 x0, .int .u8 x1, .int .u8 x2] := ⟨_, _, _, rfl⟩
    have Hk := Lib.hid (key3 (Lzp.key bs i))
    rw [hk] at K HL Hk
    clear hk
    have Hpl : Hid (places bs (i + 1) = (places bs i).put (kl3 (Lzp.key bs i)) (.lit (.int .i64 (i : Int)))) := by
      show (if i + 3 ≤ bs.length then _ else _) = _
      rw [if_pos (by rw [L.out]; omega)]
    have Hpv : Hid (Lzp.prev bs i = Lzp.num (Lzp.last bs i (Lzp.key bs i))) := by unfold Lzp.prev; rw [if_pos (by rw [L.out]; omega)]; rfl
    go_enter Try.func20, Try.ntmps20
    go_wp2_with (at_builtin; refine wpList_append_any _ rfl (.tmp 13) (.tmp 14) 44 rfl base 3 i0 (.int .i64 0) 1 8 Try.underlying44 hin.out hz0.out hz1.out hz2.out rfl (by omega) Ap i cp _ rfl (C.out.2.2.2.2.alloc _) (w.heap.size + 1) (some ⟨w.heap.size, 0, none⟩) 1 1 [.int .i64 (-1)] rfl (reads_one _ _ _) (one_one rfl) hb1 hb2 (Nat.le_trans hbase (by simp)) ?_; intro A1 c1 w2 ho1 hg1 _hs1; have F := Lib.hid (chn_first C.out hbase ho1 hg1); have f1 := F.out.2.2.2.frozen 1; have z1 : w2.cell? ⟨g, 1, none⟩ = some (.slice Ap i cp) := F.out.2.2.2.cell 1; clear ho1 hg1 _hs1)
    have hsz3 : base ≤ (w2.setCell ⟨g, 1, none⟩ (.slice A1 (i + 1) c1)).heap.size := Nat.le_trans hbase F.out.2.1.size
    generalize w2.setCell ⟨g, 1, none⟩ (.slice A1 (i + 1) c1) = w3 at *
    refine (K.out w3 F.out.2.1 hsz3).mono ?_; rintro e w4 ⟨rfl, hB4⟩
    replace hB4 := Lib.hid hB4
    go_wp2_with fail
    have C5 : Chn1 (w4.alloc (.cells #[.int .u8 x0, .int .u8 x1, .int .u8 x2] 52)) base g bs i M A1 c1 (-1) := F.out.1.below (hB4.out.alloc hB4.out.size _)
    have B5 : Below base w (w4.alloc (.cells #[.int .u8 x0, .int .u8 x1, .int .u8 x2] 52)) := F.out.2.1.trans ((hB4.out.alloc hB4.out.size _).mono hsz3)
    have T5 : KeepT w (w4.alloc (.cells #[.int .u8 x0, .int .u8 x1, .int .u8 x2] 52)) := (F.out.2.2.1.trans (KeepT.below hB4.out)).trans (KeepT.alloc w4 _)
    have K5 : Blk (w4.alloc (.cells #[.int .u8 x0, .int .u8 x1, .int .u8 x2] 52)) w4.heap.size 52 #[.int .u8 x0, .int .u8 x1, .int .u8 x2] := Blk.new _ _ _
    generalize w4.alloc (.cells #[.int .u8 x0, .int .u8 x1, .int .u8 x2] 52) = w5 at *
    generalize w4.heap.size = g6 at *
    have hl := fun q => HL.out w5 A1 c1 q (-1) C5
    have n0 : w5.cell? ⟨g, 0, none⟩ = some (.map (some M)) := C5.1.cell 0
    have n1 : w5.cell? ⟨g, 1, none⟩ = some (.slice A1 (i + 1) c1) := C5.1.cell 1
    have k0 : w5.cell? ⟨g6, 0, none⟩ = some (.int .u8 x0) := K5.cell 0
    have k1 : w5.cell? ⟨g6, 1, none⟩ = some (.int .u8 x1) := K5.cell 1
    have k2 : w5.cell? ⟨g6, 2, none⟩ = some (.int .u8 x2) := K5.cell 2
    replace C5 := Lib.hid C5; replace B5 := Lib.hid B5; replace T5 := Lib.hid T5; replace K5 := Lib.hid K5
    clear hB4 K HL F f1 z1 hsz3
    cases hlast : Lzp.last bs i (Lzp.key bs i)
    · rw [hlast] at hl Hpv
      simp only [Option.getD_none, Option.isSome_none] at hl
      clear hlast
      go_quiet (fail)
      go_wp2_with fail
      have C6 : Hid (Chn1 (w5.drewN nq) base g bs i M A1 c1 (-1)) := C5.out
      have B6 : Hid (Below base w (w5.drewN nq)) := below_drewN B5.out _
      have T6 : Hid (KeepT w (w5.drewN nq)) := T5.out
      have n0 : (w5.drewN nq).cell? ⟨g, 0, none⟩ = some (.map (some M)) := C6.out.1.cell 0
      have K6 : Hid (Blk (w5.drewN nq) g6 52 #[.int .u8 x0, .int .u8 x1, .int .u8 x2]) := K5.out
      have k0 : (w5.drewN nq).cell? ⟨g6, 0, none⟩ = some (.int .u8 x0) := K6.out.cell 0
      have k1 : (w5.drewN nq).cell? ⟨g6, 1, none⟩ = some (.int .u8 x1) := K6.out.cell 1
      have k2 : (w5.drewN nq).cell? ⟨g6, 2, none⟩ = some (.int .u8 x2) := K6.out.cell 2
      clear hl
      generalize w5.drewN nq = w6 at *
      go_still_tail 6, (by kernel_rfl)
      have hown : Hid (w6.drew.ownsMap Try.prog 52 (plainElem (H := Unit) Try.prog 3) M i (places bs i)) := C6.out.2.2.2.1
      go_wp2_with (at_mapUpdate; refine wpList_mapUpdate_own _ rfl _ _ _ 43 rfl 52 3 law3 Try.underlying43 _ M i (places bs i) rfl hown.out (by unfold maxLen; omega) _ _ (kl3 (Lzp.key bs i)) rfl rfl Hk.out (.lit (.int .i64 (i : Int))) [] (plainElem_int Try.underlying3 (WalkArith.wf_i64 (by omega))) ?_; intro w7 hown7 hgrow7)
      rw [← Hpl.out] at hown7
      have C7 : Chn1 w6.drew base g bs i M A1 c1 (-1) := C6.out
      go_end0
      exact ⟨⟨_, rfl⟩, ⟨A1, c1, chn_last C7 (by rw [Hpv.out]; rfl) hown7 hgrow7⟩, B6.out.drew.grown hgrow7 (Nat.le_trans hbase B6.out.size) (fun k hk => by injection hk with hk; rw [← hk]; exact C6.out.2.2.1), (show KeepT w w6.drew from T6.out).trans (KeepT.grown hgrow7 fun k hk => .inr (by injection hk with hk; rw [← hk]; exact own_map hown.out))⟩
    · rename_i p
      rw [hlast] at hl Hpv
      simp only [Option.getD_some, Option.isSome_some] at hl
      clear hlast
      obtain ⟨gp, rfl, hgp⟩ : ∃ gp, A1 = some ⟨gp, 0, none⟩ ∧ base ≤ gp := by
        rcases C5.out.2.2.2.2.2 with ⟨_, h0⟩ | ⟨gp, cap, cur, hv, hb, _⟩
        · omega
        · simp only [Value.slice.injEq] at hv
          exact ⟨gp, hv.1, hb⟩
      have rc : w5.cell? ⟨gp, i, none⟩ = some (.int .i64 (-1)) := by
        rw [C5.out.2.2.2.2.cellAt i (by omega), List.getElem?_append_right (by simp [Lzp.prevs_len])]
        simp [Lzp.prevs_len, I64]
      have rf : w5.frozen? ⟨gp, i, none⟩ = false := C5.out.2.2.2.2.frozenAt i
      have hii : (i : Int) < (i : Int) + 1 := by omega
      go_quiet (fail)
      go_wp2_with fail
      have S6 := Lib.hid (chn1_store (p : Int) (show Chn1 (w5.drewN nq) base g bs i M (some ⟨gp, 0, none⟩) c1 (-1) from C5.out))
      have hn6 : g6 ≠ gp := by
        intro e
        obtain ⟨cs, fr, hc⟩ := own_row C5.out.2.2.2.2 gp rfl
        have hb' : w5.heap[g6]? = some (.cells #[.int .u8 x0, .int .u8 x1, .int .u8 x2] 52) := K5.out
        rw [e, hc] at hb'
        injection hb' with hb'
        injection hb' with _ hb'
        exact absurd hb' (by decide)
      have C6 : Hid (Chn1 ((w5.drewN nq).setCell ⟨gp, i, none⟩ (.int .i64 (p : Int))) base g bs i M (some ⟨gp, 0, none⟩) c1 ((p : Int))) := S6.out.1
      have B6 : Hid (Below base w ((w5.drewN nq).setCell ⟨gp, i, none⟩ (.int .i64 (p : Int)))) := (below_drewN B5.out _).setCell (p := ⟨gp, i, none⟩) hgp _
      have T6 : Hid (KeepT w ((w5.drewN nq).setCell ⟨gp, i, none⟩ (.int .i64 (p : Int)))) := (show KeepT w (w5.drewN nq) from T5.out).trans S6.out.2.1
      have n0 : ((w5.drewN nq).setCell ⟨gp, i, none⟩ (.int .i64 (p : Int))).cell? ⟨g, 0, none⟩ = some (.map (some M)) := C6.out.1.cell 0
      have K6 : Hid (Blk ((w5.drewN nq).setCell ⟨gp, i, none⟩ (.int .i64 (p : Int))) g6 52 #[.int .u8 x0, .int .u8 x1, .int .u8 x2]) := (show Blk (w5.drewN nq) g6 _ _ from K5.out).far (p := ⟨gp, i, none⟩) hn6 _
      have k0 : ((w5.drewN nq).setCell ⟨gp, i, none⟩ (.int .i64 (p : Int))).cell? ⟨g6, 0, none⟩ = some (.int .u8 x0) := K6.out.cell 0
      have k1 : ((w5.drewN nq).setCell ⟨gp, i, none⟩ (.int .i64 (p : Int))).cell? ⟨g6, 1, none⟩ = some (.int .u8 x1) := K6.out.cell 1
      have k2 : ((w5.drewN nq).setCell ⟨gp, i, none⟩ (.int .i64 (p : Int))).cell? ⟨g6, 2, none⟩ = some (.int .u8 x2) := K6.out.cell 2
      clear hl
      generalize (w5.drewN nq).setCell ⟨gp, i, none⟩ (.int .i64 (p : Int)) = w6 at *
      go_still_tail 6, (by kernel_rfl)
      have hown : Hid (w6.drew.ownsMap Try.prog 52 (plainElem (H := Unit) Try.prog 3) M i (places bs i)) := C6.out.2.2.2.1
      go_wp2_with (at_mapUpdate; refine wpList_mapUpdate_own _ rfl _ _ _ 43 rfl 52 3 law3 Try.underlying43 _ M i (places bs i) rfl hown.out (by unfold maxLen; omega) _ _ (kl3 (Lzp.key bs i)) rfl rfl Hk.out (.lit (.int .i64 (i : Int))) [] (plainElem_int Try.underlying3 (WalkArith.wf_i64 (by omega))) ?_; intro w7 hown7 hgrow7)
      rw [← Hpl.out] at hown7
      have C7 : Chn1 w6.drew base g bs i M (some ⟨gp, 0, none⟩) c1 ((p : Int)) := C6.out
      go_end0
      exact ⟨⟨_, rfl⟩, ⟨_, c1, chn_last C7 (by rw [Hpv.out]; rfl) hown7 hgrow7⟩, B6.out.drew.grown hgrow7 (Nat.le_trans hbase B6.out.size) (fun k hk => by injection hk with hk; rw [← hk]; exact C6.out.2.2.1), (show KeepT w w6.drew from T6.out).trans (KeepT.grown hgrow7 fun k hk => .inr (by injection hk with hk; rw [← hk]; exact own_map hown.out))⟩
end Go.Proofs.Ytiakpffmjkkniaa
