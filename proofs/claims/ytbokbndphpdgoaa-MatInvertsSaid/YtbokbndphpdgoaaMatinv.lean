/-
  The law MatInverts.
-/
import Derived.Test.YtbokbndphpdgoaaMativ2
import Derived.Test.YtbokbndphpdgoaaMatmul
namespace Go.Proofs.Ytbokbndphpdgoaa
set_option linter.unusedSimpArgs false
set_option linter.unusedVariables false
open Go.RowKit

set_option maxRecDepth 100000 in
set_option maxHeartbeats 1000000 in
theorem refInverse_bad (r c : Int) (A : Option Addr) (n k : Nat) (w : World) (h : ¬ (Matp.may r c n = true ∧ r = c)) :
    Calls Try.prog 32 #[.agg #[.int .i64 r, .int .i64 c, .slice A n k]] w (MRet w 0 0 [] 13) := by
  have M1 := fun W => Lib.hid (refMay_any r c A n k W)
  unfold mC at M1
  have hz := (zero_of_info info_m).1
  have hcases : Matp.may r c n = false ∨ (Matp.may r c n = true ∧ (r == c) = false) := by
    cases h1 : Matp.may r c n
    · exact .inl rfl
    · refine .inr ⟨rfl, ?_⟩
      rw [beq_eq_false_iff_ne]
      exact fun h3 => h ⟨h1, h3⟩
  clear h
  rcases hcases with h1 | ⟨h1, h3⟩
  all_goals
    rw [h1] at M1
    clear h1
    go_enter Try.func32, Try.ntmps32
    go_wp2_with fail
    obtain ⟨hb2, hb3, hB0⟩ := blk2m w 24 24 #[.int .i64 r, .int .i64 c, .slice A n k] #[.int .i64 0, .int .i64 0, .slice none 0 0]
    generalize (w.alloc (.cells #[.int .i64 r, .int .i64 c, .slice A n k] 24)).alloc (.cells #[.int .i64 0, .int .i64 0, .slice none 0 0] 24) = W0 at *
    have hg3 : w.heap.size < w.heap.size + 1 := by omega
    have KB : Hid (∀ W, Below W0.heap.size W0 W → Below w.heap.size w W ∧ Blk W (w.heap.size + 1) 24 (mC 0 0 (.slice none 0 0))) := fun W hW => ⟨hB0.trans (hW.mono hB0.size), hb3.below hW hb3.lt⟩
    have C2 : Hid (∀ W, Below W0.heap.size W0 W → W.cell? ⟨w.heap.size, 0, none⟩ = some (.int .i64 r) ∧ W.cell? ⟨w.heap.size, 1, none⟩ = some (.int .i64 c) ∧ W.cell? ⟨w.heap.size, 2, none⟩ = some (.slice A n k)) := fun W hW => ⟨(hb2.below hW hb2.lt).cell 0, (hb2.below hW hb2.lt).cell 1, (hb2.below hW hb2.lt).cell 2⟩
    clear hb2 hb3 hB0
    generalize w.heap.size + 1 = g3 at *
    refine (M1 _).out.mono ?_; rintro e w1 ⟨rfl, hB1⟩
    obtain ⟨x0, x1, x2⟩ := C2.out w1 hB1
    have Hb4 := Lib.hid (KB.out _ hB1).2
    have HBw := Lib.hid (KB.out _ hB1).1
    clear hB1
    go_wp2_with (refine wpList_store_row rfl 24 _ _ rfl g3 (mC 0 0 (.slice none 0 0)) rfl rfl 24 (mC 0 0 (.slice none 0 0)) Hb4.out info_ms rfl (mC_one _ _ _ _ _) ?_)
    exact bodyPost_ret (results_cell_int rfl _ _ g3 (mC 0 0 (.slice none 0 0)) (.int .i64 13) rfl rfl (run_loadVar_row _ g3 24 _ (mC 0 0 (.slice none 0 0)) (0, 0) _ (Hb4.out.row _) Try.underlying24 rfl info_ms)) rfl ⟨none, 0, rfl, World.ownsRow_nil _ _ _ 1, below_row HBw.out (Nat.le_of_lt hg3) _⟩
theorem refInverse_all (r c : Int) (A : Option Addr) (n k : Nat) (bs : List UInt8) (w : World) (h : Reads w w.heap.size 1 A n (bs.map B8)) :
    Calls Try.prog 32 #[.agg #[.int .i64 r, .int .i64 c, .slice A n k]] w (MRet w (invV r c bs).1 (invV r c bs).2.1 (invV r c bs).2.2.1 (invV r c bs).2.2.2) := by
  have hl := h.len
  unfold invV
  rw [hl]
  by_cases hok : Matp.may r c n = true ∧ r = c
  · rw [if_pos hok]
    obtain ⟨R, C, rfl, rfl, hR, hC, hn⟩ := may_nat hok.1
    obtain rfl : R = C := by have := hok.2; omega
    simp only [Int.toNat_natCast]
    have := refInverse_in R A n k bs w hR hn h
    unfold InvRet at this
    cases hi : Lin.inverse R (cellAt bs R) with
    | none => rw [hi] at this; exact this
    | some x => rw [hi] at this; exact this
  · rw [if_neg hok]
    exact refInverse_bad r c A n k w hok

set_option maxRecDepth 100000 in
set_option maxHeartbeats 8000000 in
theorem matInverts_walk (r c : Int) (A : Option Addr) (n k : Nat) (xa : List UInt8) (w : World) (_w1 : (Lit.int .i64 r).wf = true ∧ (Lit.int .i64 c).wf = true) (hnk : n ≤ k) (_m : k ≤ maxLen) (h : Reads w w.heap.size 1 A n (xa.map B8)) :
    Calls Try.prog 12 #[.agg #[.int .i64 r, .int .i64 c, .slice A n k]] w fun e w' => e = .returned (.bool true) ∧ Below w.heap.size w w' := by
  have hz := (zero_of_info info_m).1
  have G := fun r c A n k W => Lib.hid (great_any r c A n k W)
  unfold mC at G
  replace G := Lib.hid G
  have L1 := Lib.hid h.len
  have N1 := Lib.hid hnk
  have CA := Lib.hid (invV_cases r c xa)
  have P1 := Lib.hid (fun W hW => inverse_all r c A n k xa W hW)
  have P2 := Lib.hid (fun W hW => refInverse_all r c A n k xa W hW)
  rcases hv1 : invV r c xa with ⟨r1, c1, cs1, er1⟩
  rw [hv1] at CA P1 P2
  simp only at P1 P2
  unfold MRet at P1 P2
  unfold mC at P1 P2
  clear hv1
  have Ma := Lib.hid (MB.new (r := r) (c := c) h hnk)
  have HB := Lib.hid ((Below.refl w.heap.size w).alloc (Nat.le_refl _) (.cells #[.int .i64 r, .int .i64 c, .slice A n k] 24))
  clear h hnk _w1 _m
  have hcase : er1 = 13 ∨ er1 = 14 ∨ ∃ (R : Nat) (X : Nat → Nat → UInt8), r = (R : Int) ∧ c = (R : Int) ∧ R ≤ 255 ∧ xa.length = R * R ∧ (r1, c1, cs1, er1) = (R, R, cellsTo R X (R * R), 0) ∧ Lin.inverse R (cellAt xa R) = some X := by
    rcases CA.out with (⟨h1, _⟩ | ⟨h1, _⟩) | h1
    · injection h1 with _ h1; injection h1 with _ h1; injection h1 with _ h1; exact .inl h1
    · injection h1 with _ h1; injection h1 with _ h1; injection h1 with _ h1; exact .inr (.inl h1)
    · exact .inr (.inr h1)
  rcases hcase with rfl | rfl | ⟨R, X, rfl, rfl, hR, hla, hx1, hX⟩
  · skip
    go_enter Try.func12, Try.ntmps12
    go_wp2_with fail
    generalize w.alloc (.cells #[.int .i64 r, .int .i64 c, .slice A n k] 24) = W0 at *
    refine (alive_any _).mono ?_; rintro e w1 ⟨rfl, hBw1⟩
    replace Ma := Lib.hid (Ma.out.below hBw1)
    replace HB := Lib.hid (below_then HB.out hBw1)
    clear hBw1
    obtain ⟨qa0, qa1, qa2⟩ := Ma.out.cells
    go_wp2_with fail
    refine ((G.out r c A n k _).out).mono ?_; rintro e w2 ⟨rfl, hBw2⟩
    clear qa0 qa1 qa2
    replace Ma := Lib.hid (Ma.out.below hBw2)
    replace HB := Lib.hid (below_then HB.out hBw2)
    clear hBw2
    obtain ⟨qa0, qa1, qa2⟩ := Ma.out.cells
    cases hg : greatV r c n
    case true =>
      go_wp2_with fail
      go_ret
      exact ⟨rfl, HB.out⟩
    case false =>
      clear hg
      go_wp2_with fail
      refine (P1.out _ Ma.out.rd).mono ?_; rintro e w3 ⟨Ax, kx, rfl, how3, hBw3⟩
      have hpw3 := mret_parts how3
      clear qa0 qa1 qa2
      replace Ma := Lib.hid (Ma.out.below hBw3)
      replace HB := Lib.hid (below_then HB.out hBw3)
      clear hBw3
      replace Ma := Lib.hid (Ma.out.alloc (.cells #[.int .i64 r1, .int .i64 c1, .slice Ax (cs1).length kx] 24))
      replace HB := Lib.hid (below_alloc HB.out (.cells #[.int .i64 r1, .int .i64 c1, .slice Ax (cs1).length kx] 24))
      have Mx := Lib.hid (MB.new (r := r1) (c := c1) hpw3.1 hpw3.2)
      clear hpw3 how3
      obtain ⟨qa0, qa1, qa2⟩ := Ma.out.cells
      obtain ⟨qx0, qx1, qx2⟩ := Mx.out.cells
      go_wp2_with fail
      generalize w3.alloc (.cells #[.int .i64 r1, .int .i64 c1, .slice Ax (cs1).length kx] 24) = w3a at *
      generalize w3.heap.size = gx at *
      refine (P2.out _ Ma.out.rd).mono ?_; rintro e w4 ⟨Ay, ky, rfl, how4, hBw4⟩
      have hpw4 := mret_parts how4
      clear qa0 qa1 qa2 qx0 qx1 qx2
      replace Ma := Lib.hid (Ma.out.below hBw4)
      replace Mx := Lib.hid (Mx.out.below hBw4)
      replace HB := Lib.hid (below_then HB.out hBw4)
      clear hBw4
      replace Ma := Lib.hid (Ma.out.alloc (.cells #[.int .i64 r1, .int .i64 c1, .slice Ay (cs1).length ky] 24))
      replace Mx := Lib.hid (Mx.out.alloc (.cells #[.int .i64 r1, .int .i64 c1, .slice Ay (cs1).length ky] 24))
      replace HB := Lib.hid (below_alloc HB.out (.cells #[.int .i64 r1, .int .i64 c1, .slice Ay (cs1).length ky] 24))
      have My := Lib.hid (MB.new (r := r1) (c := c1) hpw4.1 hpw4.2)
      clear hpw4 how4
      obtain ⟨qa0, qa1, qa2⟩ := Ma.out.cells
      obtain ⟨qx0, qx1, qx2⟩ := Mx.out.cells
      obtain ⟨qy0, qy1, qy2⟩ := My.out.cells
      go_wp2_with fail
      generalize w4.alloc (.cells #[.int .i64 r1, .int .i64 c1, .slice Ay (cs1).length ky] 24) = w4a at *
      generalize w4.heap.size = gy at *
      refine (same_box Mx.out My.out).mono ?_; rintro e w5 ⟨rfl, hBw5⟩
      clear qa0 qa1 qa2 qx0 qx1 qx2 qy0 qy1 qy2
      replace Ma := Lib.hid (Ma.out.below hBw5)
      replace Mx := Lib.hid (Mx.out.below hBw5)
      replace My := Lib.hid (My.out.below hBw5)
      replace HB := Lib.hid (below_then HB.out hBw5)
      clear hBw5
      obtain ⟨qa0, qa1, qa2⟩ := Ma.out.cells
      obtain ⟨qx0, qx1, qx2⟩ := Mx.out.cells
      obtain ⟨qy0, qy1, qy2⟩ := My.out.cells
      go_wp2_with fail
      go_ret
      exact ⟨rfl, HB.out⟩
  · skip
    go_enter Try.func12, Try.ntmps12
    go_wp2_with fail
    generalize w.alloc (.cells #[.int .i64 r, .int .i64 c, .slice A n k] 24) = W0 at *
    refine (alive_any _).mono ?_; rintro e w1 ⟨rfl, hBw1⟩
    replace Ma := Lib.hid (Ma.out.below hBw1)
    replace HB := Lib.hid (below_then HB.out hBw1)
    clear hBw1
    obtain ⟨qa0, qa1, qa2⟩ := Ma.out.cells
    go_wp2_with fail
    refine ((G.out r c A n k _).out).mono ?_; rintro e w2 ⟨rfl, hBw2⟩
    clear qa0 qa1 qa2
    replace Ma := Lib.hid (Ma.out.below hBw2)
    replace HB := Lib.hid (below_then HB.out hBw2)
    clear hBw2
    obtain ⟨qa0, qa1, qa2⟩ := Ma.out.cells
    cases hg : greatV r c n
    case true =>
      go_wp2_with fail
      go_ret
      exact ⟨rfl, HB.out⟩
    case false =>
      clear hg
      go_wp2_with fail
      refine (P1.out _ Ma.out.rd).mono ?_; rintro e w3 ⟨Ax, kx, rfl, how3, hBw3⟩
      have hpw3 := mret_parts how3
      clear qa0 qa1 qa2
      replace Ma := Lib.hid (Ma.out.below hBw3)
      replace HB := Lib.hid (below_then HB.out hBw3)
      clear hBw3
      replace Ma := Lib.hid (Ma.out.alloc (.cells #[.int .i64 r1, .int .i64 c1, .slice Ax (cs1).length kx] 24))
      replace HB := Lib.hid (below_alloc HB.out (.cells #[.int .i64 r1, .int .i64 c1, .slice Ax (cs1).length kx] 24))
      have Mx := Lib.hid (MB.new (r := r1) (c := c1) hpw3.1 hpw3.2)
      clear hpw3 how3
      obtain ⟨qa0, qa1, qa2⟩ := Ma.out.cells
      obtain ⟨qx0, qx1, qx2⟩ := Mx.out.cells
      go_wp2_with fail
      generalize w3.alloc (.cells #[.int .i64 r1, .int .i64 c1, .slice Ax (cs1).length kx] 24) = w3a at *
      generalize w3.heap.size = gx at *
      refine (P2.out _ Ma.out.rd).mono ?_; rintro e w4 ⟨Ay, ky, rfl, how4, hBw4⟩
      have hpw4 := mret_parts how4
      clear qa0 qa1 qa2 qx0 qx1 qx2
      replace Ma := Lib.hid (Ma.out.below hBw4)
      replace Mx := Lib.hid (Mx.out.below hBw4)
      replace HB := Lib.hid (below_then HB.out hBw4)
      clear hBw4
      replace Ma := Lib.hid (Ma.out.alloc (.cells #[.int .i64 r1, .int .i64 c1, .slice Ay (cs1).length ky] 24))
      replace Mx := Lib.hid (Mx.out.alloc (.cells #[.int .i64 r1, .int .i64 c1, .slice Ay (cs1).length ky] 24))
      replace HB := Lib.hid (below_alloc HB.out (.cells #[.int .i64 r1, .int .i64 c1, .slice Ay (cs1).length ky] 24))
      have My := Lib.hid (MB.new (r := r1) (c := c1) hpw4.1 hpw4.2)
      clear hpw4 how4
      obtain ⟨qa0, qa1, qa2⟩ := Ma.out.cells
      obtain ⟨qx0, qx1, qx2⟩ := Mx.out.cells
      obtain ⟨qy0, qy1, qy2⟩ := My.out.cells
      go_wp2_with fail
      generalize w4.alloc (.cells #[.int .i64 r1, .int .i64 c1, .slice Ay (cs1).length ky] 24) = w4a at *
      generalize w4.heap.size = gy at *
      refine (same_box Mx.out My.out).mono ?_; rintro e w5 ⟨rfl, hBw5⟩
      clear qa0 qa1 qa2 qx0 qx1 qx2 qy0 qy1 qy2
      replace Ma := Lib.hid (Ma.out.below hBw5)
      replace Mx := Lib.hid (Mx.out.below hBw5)
      replace My := Lib.hid (My.out.below hBw5)
      replace HB := Lib.hid (below_then HB.out hBw5)
      clear hBw5
      obtain ⟨qa0, qa1, qa2⟩ := Ma.out.cells
      obtain ⟨qx0, qx1, qx2⟩ := Mx.out.cells
      obtain ⟨qy0, qy1, qy2⟩ := My.out.cells
      go_wp2_with fail
      go_ret
      exact ⟨rfl, HB.out⟩
  · skip
    obtain ⟨rfl, rfl, rfl, rfl⟩ : R = r1 ∧ R = c1 ∧ cs1 = cellsTo R X (R * R) ∧ er1 = 0 := by simp at hx1; exact ⟨hx1.1.symm, hx1.2.1.symm, hx1.2.2.1, hx1.2.2.2⟩
    have hn : n = R * R := by have := L1.out; omega
    have lx : (cellsTo R X (R * R)).length = R * R := cellsTo_len _ _ _
    have PI : Hid (∀ W, Calls Try.prog 17 #[.int .i64 (R : Nat)] W (MRet W R R (cellsTo R oneC (R * R)) 0)) := fun W => identity_in R W hR
    have P3 : Hid (∀ Ax kx W, (cellsTo R X (R * R)).length ≤ kx → Reads W W.heap.size 1 A n (xa.map B8) → Reads W W.heap.size 1 Ax (cellsTo R X (R * R)).length ((cellsTo R X (R * R)).map B8) → Calls Try.prog 27 #[.agg (mC R R (.slice A n k)), .agg (mC R R (.slice Ax (cellsTo R X (R * R)).length kx))] W (MRet W R R (cellsTo R oneC (R * R)) 0)) := fun Ax kx W hk h1 h2 => by
      have h3 := mul_in R R R A Ax n k _ kx xa _ W hR hR hR hn N1.out lx hk h1 h2
      rw [inv_right hX] at h3
      exact h3
    have P4 : Hid (∀ Ax kx W, (cellsTo R X (R * R)).length ≤ kx → Reads W W.heap.size 1 A n (xa.map B8) → Reads W W.heap.size 1 Ax (cellsTo R X (R * R)).length ((cellsTo R X (R * R)).map B8) → Calls Try.prog 27 #[.agg (mC R R (.slice Ax (cellsTo R X (R * R)).length kx)), .agg (mC R R (.slice A n k))] W (MRet W R R (cellsTo R oneC (R * R)) 0)) := fun Ax kx W hk h1 h2 => by
      have h3 := mul_in R R R Ax A _ kx n k _ xa W hR hR hR lx hk hn N1.out h2 h1
      rw [inv_left hX] at h3
      exact h3
    clear hx1 hX lx hn hla CA
    generalize cellsTo R oneC (R * R) = xi at *
    generalize cellsTo R X (R * R) = xx at *
    unfold MRet at P3 P4 PI
    unfold mC at P3 P4 PI
    go_enter Try.func12, Try.ntmps12
    go_wp2_with fail
    generalize w.alloc (.cells #[.int .i64 R, .int .i64 R, .slice A n k] 24) = W0 at *
    refine (alive_any _).mono ?_; rintro e w1 ⟨rfl, hBw1⟩
    replace Ma := Lib.hid (Ma.out.below hBw1)
    replace HB := Lib.hid (below_then HB.out hBw1)
    clear hBw1
    obtain ⟨qa0, qa1, qa2⟩ := Ma.out.cells
    go_wp2_with fail
    refine ((G.out R R A n k _).out).mono ?_; rintro e w2 ⟨rfl, hBw2⟩
    clear qa0 qa1 qa2
    replace Ma := Lib.hid (Ma.out.below hBw2)
    replace HB := Lib.hid (below_then HB.out hBw2)
    clear hBw2
    obtain ⟨qa0, qa1, qa2⟩ := Ma.out.cells
    cases hg : greatV R R n
    case true =>
      go_wp2_with fail
      go_ret
      exact ⟨rfl, HB.out⟩
    case false =>
      clear hg
      go_wp2_with fail
      refine (P1.out _ Ma.out.rd).mono ?_; rintro e w3 ⟨Ax, kx, rfl, how3, hBw3⟩
      have hpw3 := mret_parts how3
      clear qa0 qa1 qa2
      replace Ma := Lib.hid (Ma.out.below hBw3)
      replace HB := Lib.hid (below_then HB.out hBw3)
      clear hBw3
      replace Ma := Lib.hid (Ma.out.alloc (.cells #[.int .i64 (R : Nat), .int .i64 (R : Nat), .slice Ax (xx).length kx] 24))
      replace HB := Lib.hid (below_alloc HB.out (.cells #[.int .i64 (R : Nat), .int .i64 (R : Nat), .slice Ax (xx).length kx] 24))
      have Mx := Lib.hid (MB.new (r := (R : Nat)) (c := (R : Nat)) hpw3.1 hpw3.2)
      clear hpw3 how3
      obtain ⟨qa0, qa1, qa2⟩ := Ma.out.cells
      obtain ⟨qx0, qx1, qx2⟩ := Mx.out.cells
      go_wp2_with fail
      generalize w3.alloc (.cells #[.int .i64 (R : Nat), .int .i64 (R : Nat), .slice Ax (xx).length kx] 24) = w3a at *
      generalize w3.heap.size = gx at *
      refine (P2.out _ Ma.out.rd).mono ?_; rintro e w4 ⟨Ay, ky, rfl, how4, hBw4⟩
      have hpw4 := mret_parts how4
      clear qa0 qa1 qa2 qx0 qx1 qx2
      replace Ma := Lib.hid (Ma.out.below hBw4)
      replace Mx := Lib.hid (Mx.out.below hBw4)
      replace HB := Lib.hid (below_then HB.out hBw4)
      clear hBw4
      replace Ma := Lib.hid (Ma.out.alloc (.cells #[.int .i64 (R : Nat), .int .i64 (R : Nat), .slice Ay (xx).length ky] 24))
      replace Mx := Lib.hid (Mx.out.alloc (.cells #[.int .i64 (R : Nat), .int .i64 (R : Nat), .slice Ay (xx).length ky] 24))
      replace HB := Lib.hid (below_alloc HB.out (.cells #[.int .i64 (R : Nat), .int .i64 (R : Nat), .slice Ay (xx).length ky] 24))
      have My := Lib.hid (MB.new (r := (R : Nat)) (c := (R : Nat)) hpw4.1 hpw4.2)
      clear hpw4 how4
      obtain ⟨qa0, qa1, qa2⟩ := Ma.out.cells
      obtain ⟨qx0, qx1, qx2⟩ := Mx.out.cells
      obtain ⟨qy0, qy1, qy2⟩ := My.out.cells
      go_wp2_with fail
      generalize w4.alloc (.cells #[.int .i64 (R : Nat), .int .i64 (R : Nat), .slice Ay (xx).length ky] 24) = w4a at *
      generalize w4.heap.size = gy at *
      refine (same_box Mx.out My.out).mono ?_; rintro e w5 ⟨rfl, hBw5⟩
      clear qa0 qa1 qa2 qx0 qx1 qx2 qy0 qy1 qy2
      replace Ma := Lib.hid (Ma.out.below hBw5)
      replace Mx := Lib.hid (Mx.out.below hBw5)
      replace My := Lib.hid (My.out.below hBw5)
      replace HB := Lib.hid (below_then HB.out hBw5)
      clear hBw5
      obtain ⟨qa0, qa1, qa2⟩ := Ma.out.cells
      obtain ⟨qx0, qx1, qx2⟩ := Mx.out.cells
      obtain ⟨qy0, qy1, qy2⟩ := My.out.cells
      go_wp2_with fail
      refine (PI.out _).mono ?_; rintro e w6 ⟨Ai, ki, rfl, how6, hBw6⟩
      have hpw6 := mret_parts how6
      clear qa0 qa1 qa2 qx0 qx1 qx2 qy0 qy1 qy2
      replace Ma := Lib.hid (Ma.out.below hBw6)
      replace Mx := Lib.hid (Mx.out.below hBw6)
      replace My := Lib.hid (My.out.below hBw6)
      replace HB := Lib.hid (below_then HB.out hBw6)
      clear hBw6
      replace Ma := Lib.hid (Ma.out.alloc (.cells #[.int .i64 (R : Nat), .int .i64 (R : Nat), .slice Ai (xi).length ki] 24))
      replace Mx := Lib.hid (Mx.out.alloc (.cells #[.int .i64 (R : Nat), .int .i64 (R : Nat), .slice Ai (xi).length ki] 24))
      replace My := Lib.hid (My.out.alloc (.cells #[.int .i64 (R : Nat), .int .i64 (R : Nat), .slice Ai (xi).length ki] 24))
      replace HB := Lib.hid (below_alloc HB.out (.cells #[.int .i64 (R : Nat), .int .i64 (R : Nat), .slice Ai (xi).length ki] 24))
      have Mi := Lib.hid (MB.new (r := (R : Nat)) (c := (R : Nat)) hpw6.1 hpw6.2)
      clear hpw6 how6
      obtain ⟨qa0, qa1, qa2⟩ := Ma.out.cells
      obtain ⟨qx0, qx1, qx2⟩ := Mx.out.cells
      obtain ⟨qy0, qy1, qy2⟩ := My.out.cells
      obtain ⟨qi0, qi1, qi2⟩ := Mi.out.cells
      go_wp2_with fail
      generalize w6.alloc (.cells #[.int .i64 (R : Nat), .int .i64 (R : Nat), .slice Ai (xi).length ki] 24) = w6a at *
      generalize w6.heap.size = gi at *
      refine (P3.out _ _ _ Mx.out.cap Ma.out.rd Mx.out.rd).mono ?_; rintro e w7 ⟨Ap, kp, rfl, how7, hBw7⟩
      have hpw7 := mret_parts how7
      clear qa0 qa1 qa2 qx0 qx1 qx2 qy0 qy1 qy2 qi0 qi1 qi2
      replace Ma := Lib.hid (Ma.out.below hBw7)
      replace Mx := Lib.hid (Mx.out.below hBw7)
      replace My := Lib.hid (My.out.below hBw7)
      replace Mi := Lib.hid (Mi.out.below hBw7)
      replace HB := Lib.hid (below_then HB.out hBw7)
      clear hBw7
      replace Ma := Lib.hid (Ma.out.alloc (.cells #[.int .i64 (R : Nat), .int .i64 (R : Nat), .slice Ap (xi).length kp] 24))
      replace Mx := Lib.hid (Mx.out.alloc (.cells #[.int .i64 (R : Nat), .int .i64 (R : Nat), .slice Ap (xi).length kp] 24))
      replace My := Lib.hid (My.out.alloc (.cells #[.int .i64 (R : Nat), .int .i64 (R : Nat), .slice Ap (xi).length kp] 24))
      replace Mi := Lib.hid (Mi.out.alloc (.cells #[.int .i64 (R : Nat), .int .i64 (R : Nat), .slice Ap (xi).length kp] 24))
      replace HB := Lib.hid (below_alloc HB.out (.cells #[.int .i64 (R : Nat), .int .i64 (R : Nat), .slice Ap (xi).length kp] 24))
      have Mp := Lib.hid (MB.new (r := (R : Nat)) (c := (R : Nat)) hpw7.1 hpw7.2)
      clear hpw7 how7
      obtain ⟨qa0, qa1, qa2⟩ := Ma.out.cells
      obtain ⟨qx0, qx1, qx2⟩ := Mx.out.cells
      obtain ⟨qy0, qy1, qy2⟩ := My.out.cells
      obtain ⟨qi0, qi1, qi2⟩ := Mi.out.cells
      obtain ⟨qp0, qp1, qp2⟩ := Mp.out.cells
      go_wp2_with fail
      generalize w7.alloc (.cells #[.int .i64 (R : Nat), .int .i64 (R : Nat), .slice Ap (xi).length kp] 24) = w7a at *
      generalize w7.heap.size = gp at *
      refine (P4.out _ _ _ Mx.out.cap Ma.out.rd Mx.out.rd).mono ?_; rintro e w8 ⟨Aq, kq, rfl, how8, hBw8⟩
      have hpw8 := mret_parts how8
      clear qa0 qa1 qa2 qx0 qx1 qx2 qy0 qy1 qy2 qi0 qi1 qi2 qp0 qp1 qp2
      replace Ma := Lib.hid (Ma.out.below hBw8)
      replace Mx := Lib.hid (Mx.out.below hBw8)
      replace My := Lib.hid (My.out.below hBw8)
      replace Mi := Lib.hid (Mi.out.below hBw8)
      replace Mp := Lib.hid (Mp.out.below hBw8)
      replace HB := Lib.hid (below_then HB.out hBw8)
      clear hBw8
      replace Ma := Lib.hid (Ma.out.alloc (.cells #[.int .i64 (R : Nat), .int .i64 (R : Nat), .slice Aq (xi).length kq] 24))
      replace Mx := Lib.hid (Mx.out.alloc (.cells #[.int .i64 (R : Nat), .int .i64 (R : Nat), .slice Aq (xi).length kq] 24))
      replace My := Lib.hid (My.out.alloc (.cells #[.int .i64 (R : Nat), .int .i64 (R : Nat), .slice Aq (xi).length kq] 24))
      replace Mi := Lib.hid (Mi.out.alloc (.cells #[.int .i64 (R : Nat), .int .i64 (R : Nat), .slice Aq (xi).length kq] 24))
      replace Mp := Lib.hid (Mp.out.alloc (.cells #[.int .i64 (R : Nat), .int .i64 (R : Nat), .slice Aq (xi).length kq] 24))
      replace HB := Lib.hid (below_alloc HB.out (.cells #[.int .i64 (R : Nat), .int .i64 (R : Nat), .slice Aq (xi).length kq] 24))
      have Mq := Lib.hid (MB.new (r := (R : Nat)) (c := (R : Nat)) hpw8.1 hpw8.2)
      clear hpw8 how8
      obtain ⟨qa0, qa1, qa2⟩ := Ma.out.cells
      obtain ⟨qx0, qx1, qx2⟩ := Mx.out.cells
      obtain ⟨qy0, qy1, qy2⟩ := My.out.cells
      obtain ⟨qi0, qi1, qi2⟩ := Mi.out.cells
      obtain ⟨qp0, qp1, qp2⟩ := Mp.out.cells
      obtain ⟨qq0, qq1, qq2⟩ := Mq.out.cells
      go_wp2_with fail
      generalize w8.alloc (.cells #[.int .i64 (R : Nat), .int .i64 (R : Nat), .slice Aq (xi).length kq] 24) = w8a at *
      generalize w8.heap.size = gq at *
      refine (same_box Mp.out Mi.out).mono ?_; rintro e w9 ⟨rfl, hBw9⟩
      clear qa0 qa1 qa2 qx0 qx1 qx2 qy0 qy1 qy2 qi0 qi1 qi2 qp0 qp1 qp2 qq0 qq1 qq2
      replace Ma := Lib.hid (Ma.out.below hBw9)
      replace Mx := Lib.hid (Mx.out.below hBw9)
      replace My := Lib.hid (My.out.below hBw9)
      replace Mi := Lib.hid (Mi.out.below hBw9)
      replace Mp := Lib.hid (Mp.out.below hBw9)
      replace Mq := Lib.hid (Mq.out.below hBw9)
      replace HB := Lib.hid (below_then HB.out hBw9)
      clear hBw9
      obtain ⟨qa0, qa1, qa2⟩ := Ma.out.cells
      obtain ⟨qx0, qx1, qx2⟩ := Mx.out.cells
      obtain ⟨qy0, qy1, qy2⟩ := My.out.cells
      obtain ⟨qi0, qi1, qi2⟩ := Mi.out.cells
      obtain ⟨qp0, qp1, qp2⟩ := Mp.out.cells
      obtain ⟨qq0, qq1, qq2⟩ := Mq.out.cells
      go_wp2_with fail
      refine (same_box Mq.out Mi.out).mono ?_; rintro e w10 ⟨rfl, hBw10⟩
      clear qa0 qa1 qa2 qx0 qx1 qx2 qy0 qy1 qy2 qi0 qi1 qi2 qp0 qp1 qp2 qq0 qq1 qq2
      replace Ma := Lib.hid (Ma.out.below hBw10)
      replace Mx := Lib.hid (Mx.out.below hBw10)
      replace My := Lib.hid (My.out.below hBw10)
      replace Mi := Lib.hid (Mi.out.below hBw10)
      replace Mp := Lib.hid (Mp.out.below hBw10)
      replace Mq := Lib.hid (Mq.out.below hBw10)
      replace HB := Lib.hid (below_then HB.out hBw10)
      clear hBw10
      obtain ⟨qa0, qa1, qa2⟩ := Ma.out.cells
      obtain ⟨qx0, qx1, qx2⟩ := Mx.out.cells
      obtain ⟨qy0, qy1, qy2⟩ := My.out.cells
      obtain ⟨qi0, qi1, qi2⟩ := Mi.out.cells
      obtain ⟨qp0, qp1, qp2⟩ := Mp.out.cells
      obtain ⟨qq0, qq1, qq2⟩ := Mq.out.cells
      go_wp2_with fail
      go_ret
      exact ⟨rfl, HB.out⟩
end Go.Proofs.Ytbokbndphpdgoaa
