/-
  The matrix that makes all parts of the data: walked.
-/
import Derived.Test.YtjbedcgacnnanaaDoorRsi
namespace Go.Proofs.YtjbedcgacnnanaaDoor
set_option linter.unusedSimpArgs false
set_option linter.unusedVariables false
open Go.RowKit

/-- a matrix alone is handed back -/
def MOne (w : World) (r c : Nat) (cs : List UInt8) (e : Ending) (w' : World) : Prop :=
  ∃ A k, e = .returned (.agg (mC r c (.slice A cs.length k))) ∧ w'.ownsRow w.heap.size 5 1 (.slice A cs.length k) cs.length (cs.map B8) ∧ Below w.heap.size w w'
theorem results_cell_one {fn : Func} {p : Tmp} {ty : TypeId} (h : fn.results = #[.cell p ty]) (tmps : Array Value) (w : World) (g : Nat) (cs : Array Value)
    (hp : tmps.getD p undef = .pointer (some ⟨g, 0, none⟩)) (hl : (loadVar ty ⟨g, 0, none⟩).run Tryd.prog w = .ok (.agg cs) w) :
    (results fn tmps).run Tryd.prog w = .ok (.agg cs) w := by
  have hp' : tmps[p]?.getD undef = .pointer (some ⟨g, 0, none⟩) := by simpa using hp
  simp [results, h, hp', asAddr, hl]
set_option maxRecDepth 100000 in
set_option maxHeartbeats 4000000 in
theorem whole_any (m p : Nat) (w : World) (hmp : m + p ≤ 255) : Calls Tryd.prog 66 #[.int .i64 m, .int .i64 p] w (MOne w (m + p) m (cellsTo m (Lin.wholeC m) ((m + p) * m))) := by
  have hz := (zero_of_info info_m).1
  have KI := Lib.hid (fun W => identity_in m W (by omega))
  have KC := Lib.hid (fun W => cauchy_in m p W (by omega))
  have KS := Lib.hid (fun (W : World) (Ai Ac : Option Addr) (ki kc : Nat) h1 h2 h3 h4 => stack2 (W := W) (Ai := Ai) (Ac := Ac) (ki := ki) (kc := kc) (n := m) (p := p) (by omega) h1 h2 h3 h4)
  unfold MRet at KI KC KS
  unfold mC at KI KC KS
  simp only [cellsTo_len] at KI KC KS
  unfold MOne
  rw [cellsTo_len]
  obtain ⟨q, hqq⟩ : ∃ q, q = m + p := ⟨_, rfl⟩
  rw [← hqq] at KS ⊢
  obtain ⟨N2, hN2⟩ : ∃ N2, m * m = N2 := ⟨_, rfl⟩
  obtain ⟨N3, hN3⟩ : ∃ N3, p * m = N3 := ⟨_, rfl⟩
  obtain ⟨N4, hN4⟩ : ∃ N4, q * m = N4 := ⟨_, rfl⟩
  rw [hN2] at KI KS
  rw [hN3] at KC KS
  rw [hN4] at KS ⊢
  generalize cellsTo m oneC N2 = xi at *
  generalize cellsTo m (cauC m) N3 = xc at *
  generalize cellsTo m (Lin.wholeC m) N4 = xw at *
  replace hN2 := Lib.hid hN2; replace hN3 := Lib.hid hN3; replace hN4 := Lib.hid hN4; replace hqq := Lib.hid hqq
  go_enter Tryd.func66, Tryd.ntmps66
  go_wp2_with fail
  have Hb : Hid (Blk (w.alloc (.cells #[.int .i64 0, .int .i64 0, .slice none 0 0] 75)) w.heap.size 75 (mC 0 0 (.slice none 0 0))) := Blk.new w 75 _
  have HB := Lib.hid (below_alloc (Below.refl w.heap.size w) (.cells #[.int .i64 0, .int .i64 0, .slice none 0 0] 75))
  generalize w.alloc (.cells #[.int .i64 0, .int .i64 0, .slice none 0 0] 75) = w0 at *
  refine (KI.out _).mono ?_; rintro e w11 ⟨Ai, ki, rfl, hoi, hBi⟩
  have hpi := mret_parts hoi
  replace Hb := Lib.hid ((Hb.out.below hBi Hb.out.lt).alloc (.cells #[.int .i64 (m : Nat), .int .i64 (m : Nat), .slice Ai N2 ki] 75))
  replace HB := Lib.hid (below_alloc (below_then HB.out hBi) (.cells #[.int .i64 (m : Nat), .int .i64 (m : Nat), .slice Ai N2 ki] 75))
  have Mi := Lib.hid (MB.new (r := (m : Nat)) (c := (m : Nat)) hpi.1 hpi.2)
  clear hpi hoi hBi
  obtain ⟨qi0, qi1, qi2⟩ := Mi.out.cells
  go_wp2_with fail
  generalize w11.alloc (.cells #[.int .i64 (m : Nat), .int .i64 (m : Nat), .slice Ai N2 ki] 75) = w11a at *
  generalize w11.heap.size = gi at *
  refine (KC.out _).mono ?_; rintro e w12 ⟨Ac, kc, rfl, hoc, hBc⟩
  have hpc := mret_parts hoc
  clear qi0 qi1 qi2
  replace Mi := Lib.hid ((Mi.out.below hBc).alloc (.cells #[.int .i64 (p : Nat), .int .i64 (m : Nat), .slice Ac N3 kc] 75))
  replace Hb := Lib.hid ((Hb.out.below hBc Hb.out.lt).alloc (.cells #[.int .i64 (p : Nat), .int .i64 (m : Nat), .slice Ac N3 kc] 75))
  replace HB := Lib.hid (below_alloc (below_then HB.out hBc) (.cells #[.int .i64 (p : Nat), .int .i64 (m : Nat), .slice Ac N3 kc] 75))
  have Mc := Lib.hid (MB.new (r := (p : Nat)) (c := (m : Nat)) hpc.1 hpc.2)
  clear hpc hoc hBc
  obtain ⟨qi0, qi1, qi2⟩ := Mi.out.cells
  obtain ⟨qc0, qc1, qc2⟩ := Mc.out.cells
  go_wp2_with fail
  rw [show w12.heap.size + 1 = (w12.alloc (.cells #[.int .i64 (p : Nat), .int .i64 (m : Nat), .slice Ac N3 kc] 75)).heap.size by simp]
  generalize w12.alloc (.cells #[.int .i64 (p : Nat), .int .i64 (m : Nat), .slice Ac N3 kc] 75) = w12a at *
  generalize w12.heap.size = gc at *
  refine (KS.out _ _ _ _ _ Mi.out.rd Mc.out.rd Mi.out.cap Mc.out.cap).mono ?_; rintro e w13 ⟨As, ks, rfl, hos, hBs⟩
  have hps := mret_parts hos
  clear qi0 qi1 qi2 qc0 qc1 qc2
  have HS := Lib.hid (own_base (base' := w.heap.size) (own_belowL hos (below_alloc (Below.refl _ _) (.cells #[.int .i64 (q : Nat), .int .i64 (m : Nat), .slice As N4 ks] 75))) HB.out.size)
  replace Hb := Lib.hid ((Hb.out.below hBs Hb.out.lt).alloc (.cells #[.int .i64 (q : Nat), .int .i64 (m : Nat), .slice As N4 ks] 75))
  replace HB := Lib.hid (below_alloc (below_then HB.out hBs) (.cells #[.int .i64 (q : Nat), .int .i64 (m : Nat), .slice As N4 ks] 75))
  have Ms := Lib.hid (MB.new (r := (q : Nat)) (c := (m : Nat)) hps.1 hps.2)
  clear hps hos hBs Mi Mc
  obtain ⟨qs0, qs1, qs2⟩ := Ms.out.cells
  go_wp2_with (refine wpList_store_row rfl 75 _ _ rfl w.heap.size (mC q m (.slice As N4 ks)) rfl rfl 75 (mC 0 0 (.slice none 0 0)) Hb.out info_ms rfl (mC_one _ _ _ _ _) ?_)
  exact bodyPost_ret (results_cell_one rfl _ _ w.heap.size (mC q m (.slice As N4 ks)) rfl (run_loadVar_row _ w.heap.size 75 _ (mC q m (.slice As N4 ks)) (0, 0) _ (Hb.out.row _) Tryd.underlying75 rfl info_ms)) rfl ⟨As, ks, rfl, own_setRowM HS.out Hb.out _, below_row HB.out (Nat.le_refl _) _⟩
end Go.Proofs.YtjbedcgacnnanaaDoor
