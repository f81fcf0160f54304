/-
  A matrix whose rows are changed: swap, add: walked.
-/
import Derived.Test.YtbokbndphpdgoaaMatwk
namespace Go.Proofs.Ytbokbndphpdgoaa
set_option linter.unusedSimpArgs false
set_option linter.unusedVariables false
open Go.RowKit

theorem own_far {W W' : World} {b n c : Nat} {A A' : Option Addr} {xs : List Value} (h : W.ownsRow b 5 1 (.slice A n c) n xs) (hA : ∀ a, A' = some a → a.block < b) (hg : W.grownBy W' (A'.map (·.block))) : W'.ownsRow b 5 1 (.slice A n c) n xs :=
  ownsRow_block h (fun a ha => by
    obtain ⟨cs, fr, hh⟩ := own_row h a.block (by rw [ha]; rfl)
    have hb := h.lt a.block (by rw [ownBlock_slice, ha]; rfl)
    refine hg.block _ (lt_of_heap hh) (fun e => ?_)
    cases A' with
    | none => simp at e
    | some a' =>
      simp at e
      have := hA a' rfl
      omega)
theorem Wk.lt {W : World} {base g o R C n k : Nat} {A : Option Addr} {f : Nat → Nat → UInt8} (h : Wk W base g o R C A n k f) : ∀ a, A = some a → base ≤ a.block ∧ a.block < W.heap.size := fun a ha => h.own.lt a.block (by rw [ownBlock_slice, ha]; rfl)
theorem Wk.off {W : World} {base g o R C n k : Nat} {A : Option Addr} {f : Nat → Nat → UInt8} (h : Wk W base g o R C A n k f) {i : Nat} (hi : i < R) : i * C + C ≤ n := by
  have hle : (i + 1) * C ≤ R * C := Nat.mul_le_mul_right _ hi
  rw [Nat.succ_mul] at hle
  rw [h.len.1]; exact hle
theorem u8_size : (Try.prog.info? 5).map (·.size) = some 1 := by kernel_rfl
/-- a row put in -/
theorem Wk.put {W W' : World} {base g o R C n k : Nat} {A : Option Addr} {f : Nat → Nat → UInt8} (h : Wk W base g o R C A n k f) {i : Nat} (hi : i < R) {x : Nat → UInt8} (ho : W'.ownsRow base 5 1 (.slice A n k) n (splice ((cellsTo C f (R * C)).map B8) (i * C) ((rowF C x).map B8))) (hg : W.grownBy W' (A.map (·.block))) :
    Wk W' base g o R C A n k (fun r t => if r = i then x t else f r t) := by
  refine h.turn hg ?_
  rw [← put_cellsTo R C i f x hi, splice_map]
  exact ho

set_option maxRecDepth 100000 in
set_option maxHeartbeats 2000000 in
theorem swap_any {w : World} {base g o R C n k : Nat} {A : Option Addr} {f : Nat → Nat → UInt8} (h : Wk w base g o R C A n k f) (ho : o = 0 ∨ o = 3) (i j : Nat) (hR : R ≤ 255) (hC : C ≤ 255) (hi : i < R) (hj : j < R) :
    Calls Try.prog 51 #[.pointer (some ⟨g, o, none⟩), .int .i64 i, .int .i64 j] w fun e w' => e = .returned (.tuple #[]) ∧ Wk w' base g o R C A n k (Lin.swapF i j f) ∧ w.grownBy w' (A.map (·.block)) := by
  have H := Lib.hid h
  have RI := Lib.hid (fun W f' (hW : Wk W base g o R C A n k f') => wrow_any hW ho i hR hC hi)
  have RJ := Lib.hid (fun W f' (hW : Wk W base g o R C A n k f') => wrow_any hW ho j hR hC hj)
  have CI := Lib.hid (fun W (hW : Wk W base g o R C A n k f) => clone_any (cutA A k (i * C) 1) C (k - i * C) W.heap.size (rowF C (f i)) W (hW.reads hi) (Nat.le_refl _) (by omega))
  have CJ := Lib.hid (fun W (hW : Wk W base g o R C A n k f) => clone_any (cutA A k (j * C) 1) C (k - j * C) W.heap.size (rowF C (f j)) W (hW.reads hj) (Nat.le_refl _) (by omega))
  unfold SlRet at CI CJ
  have OI := h.off hi
  have OJ := h.off hj
  replace OI := Lib.hid OI; replace OJ := Lib.hid OJ
  have HA := Lib.hid (fun a ha => (h.lt a ha).2)
  have HSW : Hid (∀ r t, (fun (r t : Nat) => if r = j then f i t else (fun (r t : Nat) => if r = i then f j t else f r t) r t) r t = Lin.swapF i j f r t) := fun r t => by
    show (if r = j then f i t else if r = i then f j t else f r t) = if r = i then f j t else if r = j then f i t else f r t
    by_cases h1 : r = j
    · by_cases h2 : r = i
      · subst h1; subst h2; rfl
      · rw [if_pos h1, if_neg h2, if_pos h1]
    · by_cases h2 : r = i
      · rw [if_neg h1, if_pos h2, if_pos h2]
      · rw [if_neg h1, if_neg h2, if_neg h2, if_neg h1]
  clear h hR hC
  go_enter Try.func51, Try.ntmps51
  go_wp2_with fail
  refine (RI.out _ _ H.out).mono ?_; rintro e w1 ⟨rfl, hB1⟩
  have H1 := Lib.hid (H.out.below hB1)
  have G1 := Lib.hid (grown_below hB1 (A.map (·.block)))
  go_wp2_with fail
  refine (CI.out _ H1.out).mono ?_; rintro e w2 ⟨Aa, ca, rfl, hfa⟩
  have H2 := Lib.hid (H1.out.below hfa.below)
  have G2 := Lib.hid (grown_trans G1.out (grown_below hfa.below (A.map (·.block))))
  have Fa := Lib.hid (own_base hfa.1 hB1.size)
  clear hfa hB1 H1 G1
  go_wp2_with fail
  refine (RJ.out _ _ H2.out).mono ?_; rintro e w3 ⟨rfl, hB3⟩
  have H3 := Lib.hid (H2.out.below hB3)
  have G3 := Lib.hid (grown_trans G2.out (grown_below hB3 (A.map (·.block))))
  replace Fa := Lib.hid (own_belowL Fa.out hB3)
  clear hB3 H2 G2
  go_wp2_with fail
  refine (CJ.out _ H3.out).mono ?_; rintro e w4 ⟨Ab, cb, rfl, hfb⟩
  have H4 := Lib.hid (H3.out.below hfb.below)
  have G4 := Lib.hid (grown_trans G3.out (grown_below hfb.below (A.map (·.block))))
  replace Fa := Lib.hid (own_belowL Fa.out hfb.below)
  have Fb := Lib.hid (own_base hfb.1 G3.out.size)
  clear hfb H3 G3
  go_wp2_with fail
  refine (RI.out _ _ H4.out).mono ?_; rintro e w5 ⟨rfl, hB5⟩
  have H5 := Lib.hid (H4.out.below hB5)
  have G5 := Lib.hid (grown_trans G4.out (grown_below hB5 (A.map (·.block))))
  replace Fa := Lib.hid (own_belowL Fa.out hB5)
  replace Fb := Lib.hid (own_belowL Fb.out hB5)
  clear hB5 H4 G4
  go_wp2_with (refine wpList_copy_in rfl (.tmp 18) (.tmp 19) 22 22 rfl 5 Try.underlying22 u8_size A n k (i * C) C base _ _ rfl H5.out.own OI.out Ab cb rfl w5.heap.size _ (Reads.of_own Fb.out) (row_one (Reads.of_own Fb.out)) ?_; intro w6 ho6 hg6)
  have H6 := Lib.hid (H5.out.put hi ho6 hg6)
  have G6 := Lib.hid (grown_trans G5.out hg6)
  replace Fa := Lib.hid (own_far Fa.out HA.out hg6)
  clear ho6 hg6 H5 G5 Fb
  go_wp2_with fail
  refine (RJ.out _ _ H6.out).mono ?_; rintro e w7 ⟨rfl, hB7⟩
  have H7 := Lib.hid (H6.out.below hB7)
  have G7 := Lib.hid (grown_trans G6.out (grown_below hB7 (A.map (·.block))))
  replace Fa := Lib.hid (own_belowL Fa.out hB7)
  clear hB7 H6 G6
  go_wp2_with (refine wpList_copy_in rfl (.tmp 23) (.tmp 24) 22 22 rfl 5 Try.underlying22 u8_size A n k (j * C) C base _ _ rfl H7.out.own OJ.out Aa ca rfl w7.heap.size _ (Reads.of_own Fa.out) (row_one (Reads.of_own Fa.out)) ?_; intro w8 ho8 hg8)
  go_end0
  exact ⟨rfl, (H7.out.put hj ho8 hg8).eqf (fun r t _ _ => HSW.out r t), grown_trans G7.out hg8⟩

/-- c times the row j added to the row i -/
def addF (i : Nat) (c : UInt8) (j : Nat) (f : Nat → Nat → UInt8) (r t : Nat) : UInt8 := if r = i then f i t ^^^ fm c (f j t) else f r t
set_option maxRecDepth 100000 in
set_option maxHeartbeats 2000000 in
theorem wadd_any {w : World} {base g o R C n k : Nat} {A : Option Addr} {f : Nat → Nat → UInt8} (h : Wk w base g o R C A n k f) (ho : o = 0 ∨ o = 3) (i : Nat) (c : UInt8) (j : Nat) (hR : R ≤ 255) (hC : C ≤ 255) (hi : i < R) (hj : j < R) :
    Calls Try.prog 53 #[.pointer (some ⟨g, o, none⟩), .int .i64 i, .int .u8 (c.toNat : Int), .int .i64 j] w fun e w' => e = .returned (.tuple #[]) ∧ Wk w' base g o R C A n k (addF i c j f) ∧ w.grownBy w' (A.map (·.block)) := by
  have H := Lib.hid h
  have RI := Lib.hid (fun W f' (hW : Wk W base g o R C A n k f') => wrow_any hW ho i hR hC hi)
  have RJ := Lib.hid (fun W f' (hW : Wk W base g o R C A n k f') => wrow_any hW ho j hR hC hj)
  have AD := Lib.hid (fun W (hW : Wk W base g o R C A n k f) => show Calls Try.prog 41 #[.slice (cutA A k (i * C) 1) C (k - i * C), .int .u8 (c.toNat : Int), .slice (cutA A k (j * C) 1) C (k - j * C)] W (SlErrN 5 W C (rowF C (fun t => f i t ^^^ fm c (f j t))) 0) by
    have h3 := Gfb.add_any (cutA A k (i * C) 1) (cutA A k (j * C) 1) C C (k - i * C) (k - j * C) (rowF C (f i)) (rowF C (f j)) c W (hW.reads hi) (hW.reads hj) (by omega) (by omega)
    unfold addR eLen at h3
    rw [rowF_len, rowF_len, if_pos rfl, if_pos rfl, addL_rowF, SlErrN_eq (rowF_len _ _)] at h3
    exact h3)
  unfold SlErrN at AD
  have OI := h.off hi
  replace OI := Lib.hid OI
  have HX : Hid (∀ r t, (fun (r t : Nat) => if r = i then (fun t => f i t ^^^ fm c (f j t)) t else f r t) r t = addF i c j f r t) := fun r t => rfl
  have hc8 := c.toNat_lt
  obtain ⟨cn, hcn⟩ : ∃ cn, c.toNat = cn := ⟨_, rfl⟩
  rw [hcn] at AD hc8
  rw [hcn]
  clear h hR hC hcn
  go_enter Try.func53, Try.ntmps53
  go_wp2_with fail
  refine (RI.out _ _ H.out).mono ?_; rintro e w1 ⟨rfl, hB1⟩
  have H1 := Lib.hid (H.out.below hB1)
  have G1 := Lib.hid (grown_below hB1 (A.map (·.block)))
  clear hB1
  go_wp2_with fail
  refine (RJ.out _ _ H1.out).mono ?_; rintro e w2 ⟨rfl, hB2⟩
  have H2 := Lib.hid (H1.out.below hB2)
  have G2 := Lib.hid (grown_trans G1.out (grown_below hB2 (A.map (·.block))))
  clear hB2 H1 G1
  go_wp2_with fail
  refine (AD.out _ H2.out).mono ?_; rintro e w3 ⟨As, cs, rfl, hf⟩
  have H3 := Lib.hid (H2.out.below hf.below)
  have G3 := Lib.hid (grown_trans G2.out (grown_below hf.below (A.map (·.block))))
  have Fs := Lib.hid hf.1
  clear hf H2 G2
  go_wp2_with fail
  refine (RI.out _ _ H3.out).mono ?_; rintro e w5 ⟨rfl, hB5⟩
  have H5 := Lib.hid (H3.out.below hB5)
  have G5 := Lib.hid (grown_trans G3.out (grown_below hB5 (A.map (·.block))))
  replace Fs := Lib.hid (own_belowL Fs.out hB5)
  clear hB5 H3 G3
  go_wp2_with (refine wpList_copy_in rfl (.tmp 23) (.tmp 24) 22 22 rfl 5 Try.underlying22 u8_size A n k (i * C) C base _ _ rfl H5.out.own OI.out As cs rfl w5.heap.size _ (Reads.of_own Fs.out) (row_one (Reads.of_own Fs.out)) ?_; intro w6 ho6 hg6)
  go_end0
  exact ⟨rfl, (H5.out.put hi ho6 hg6).eqf (fun r t _ _ => HX.out r t), grown_trans G5.out hg6⟩
end Go.Proofs.Ytbokbndphpdgoaa
