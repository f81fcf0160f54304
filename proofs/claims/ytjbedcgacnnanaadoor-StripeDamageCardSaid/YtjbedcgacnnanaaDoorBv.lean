/-
  Texts put together: Matpk Matmb Matv Matbr Matcl Matwk Matwk2 Matwk3 Matwk4 Matwk5 Matwk6 Matwk7 Matca.
-/
import Derived.Test.YtjbedcgacnnanaaDoorMatj
import Derived.Test.YtjbedcgacnnanaaDoorBq
import Derived.Test.YtjbedcgacnnanaaDoorBl
import Derived.Lib.Hide
import Derived.WalkSpells
import Derived.Deep.QuietTactic
import Derived.BigQuiet
import Derived.Outline
import Derived.Test.YtjbedcgacnnanaaDoorBo
namespace Go.Proofs.YtjbedcgacnnanaaDoor
set_option linter.unusedSimpArgs false
set_option linter.unusedVariables false
open Go.RowKit

/-- is a matrix more than statements reckon with? -/
def greatV (r c : Int) (n : Nat) : Bool := Matp.may r c n && decide (400 < n)
/-- what both of Pick say -/
theorem picks_both (r c : Int) (A A' : Option Addr) (n k n' k' : Nat) (bs : List UInt8) (xs : List Int) (w : World) (hnk : n ≤ k)
    (h : Reads w w.heap.size 1 A n (bs.map B8)) (h' : Reads w w.heap.size 1 A' n' (xs.map I64)) : ∃ (r1 c1 : Nat) (cs1 : List UInt8) (er1 : Int),
    (∀ W, Below w.heap.size w W → Calls Tryd.prog 65 #[.agg #[.int .i64 r, .int .i64 c, .slice A n k], .slice A' n' k'] W (MRet W r1 c1 cs1 er1)) ∧
    (∀ W, Below w.heap.size w W → Calls Tryd.prog 52 #[.agg #[.int .i64 r, .int .i64 c, .slice A n k], .slice A' n' k'] W (MRet W r1 c1 cs1 er1)) := by
  by_cases hok : Matp.may r c n = true ∧ n' ≤ 255
  · obtain ⟨R, C, rfl, rfl, hR, hC, hn⟩ := may_nat hok.1
    cases hp : pickGo bs R C xs [] with
    | none =>
      exact ⟨0, 0, [], 13, fun W hW => pick_in R C A A' n k n' k' bs xs W hR hC hn hnk hok.2 ((h.below hW).more hW.size) ((h'.below hW).more hW.size) _ (fun out ho => by rw [hp] at ho; cases ho) (fun _ e w' hm => hm),
        fun W hW => refPick_in R C A A' n k n' k' bs xs W hR hC hn hnk hok.2 ((h.below hW).more hW.size) ((h'.below hW).more hW.size) _ (fun out ho => by rw [hp] at ho; cases ho) (fun _ e w' hm => hm)⟩
    | some out =>
      exact ⟨n', C, out, 0, fun W hW => pick_in R C A A' n k n' k' bs xs W hR hC hn hnk hok.2 ((h.below hW).more hW.size) ((h'.below hW).more hW.size) _ (fun o ho e w' hm => by rw [hp] at ho; injection ho with ho; subst ho; exact hm) (fun ho => by rw [hp] at ho; cases ho),
        fun W hW => refPick_in R C A A' n k n' k' bs xs W hR hC hn hnk hok.2 ((h.below hW).more hW.size) ((h'.below hW).more hW.size) _ (fun o ho e w' hm => by rw [hp] at ho; injection ho with ho; subst ho; exact hm) (fun ho => by rw [hp] at ho; cases ho)⟩
  · exact ⟨0, 0, [], 13, fun W _ => pick_bad r c A A' n k n' k' W hok, fun W _ => refPick_bad r c A A' n k n' k' W hok⟩

end Go.Proofs.YtjbedcgacnnanaaDoor

namespace Go.Proofs.YtjbedcgacnnanaaDoor
set_option linter.unusedSimpArgs false
set_option linter.unusedVariables false
open Go.RowKit

/-- what a product gives -/
def mulV (r c : Int) (xa : List UInt8) (r' c' : Int) (xb : List UInt8) : Nat × Nat × List UInt8 × Int :=
  if Matp.may r c xa.length = true ∧ Matp.may r' c' xb.length = true ∧ c = r' then (r.toNat, c'.toNat, mulC xa xb r.toNat c.toNat c'.toNat, 0) else (0, 0, [], 13)
end Go.Proofs.YtjbedcgacnnanaaDoor

namespace Go.Proofs.YtjbedcgacnnanaaDoor
set_option linter.unusedSimpArgs false
set_option linter.unusedVariables false
open Go.RowKit

/-- a matrix' variable at block g -/
structure MB (W : World) (g : Nat) (r c : Int) (A : Option Addr) (n k : Nat) (xs : List UInt8) : Prop where
  blk : Blk W g 75 #[.int .i64 r, .int .i64 c, .slice A n k]
  rd : Reads W W.heap.size 1 A n (xs.map B8)
  cap : n ≤ k
theorem MB.below {W W' : World} {g : Nat} {r c : Int} {A : Option Addr} {n k : Nat} {xs : List UInt8} (h : MB W g r c A n k xs) (hB : Below W.heap.size W W') : MB W' g r c A n k xs :=
  ⟨h.blk.below hB h.blk.lt, (h.rd.below hB).more hB.size, h.cap⟩
theorem MB.alloc {W : World} {g : Nat} {r c : Int} {A : Option Addr} {n k : Nat} {xs : List UInt8} (h : MB W g r c A n k xs) (o : Obj) : MB (W.alloc o) g r c A n k xs :=
  h.below ((Below.refl _ _).alloc (Nat.le_refl _) o)
theorem MB.new {W : World} {r c : Int} {A : Option Addr} {n k : Nat} {xs : List UInt8} (h : Reads W W.heap.size 1 A n (xs.map B8)) (hk : n ≤ k) : MB (W.alloc (.cells #[.int .i64 r, .int .i64 c, .slice A n k] 75)) W.heap.size r c A n k xs :=
  ⟨Blk.new W _ _, (h.alloc (Nat.le_refl _) _).more (by simp), hk⟩
theorem MB.cells {W : World} {g : Nat} {r c : Int} {A : Option Addr} {n k : Nat} {xs : List UInt8} (h : MB W g r c A n k xs) : W.cell? ⟨g, 0, none⟩ = some (.int .i64 r) ∧ W.cell? ⟨g, 1, none⟩ = some (.int .i64 c) ∧ W.cell? ⟨g, 2, none⟩ = some (.slice A n k) :=
  ⟨h.blk.cell 0, h.blk.cell 1, h.blk.cell 2⟩
theorem MB.len {W : World} {g : Nat} {r c : Int} {A : Option Addr} {n k : Nat} {xs : List UInt8} (h : MB W g r c A n k xs) : xs.length = n := h.rd.len
/-- what a call of a matrix' result gives: its reading and room -/
theorem mret_parts {w w' : World} {A : Option Addr} {n k : Nat} {xs : List Value} (h : w'.ownsRow w.heap.size 5 1 (.slice A n k) n xs) : Reads w' w'.heap.size 1 A n xs ∧ n ≤ k := ⟨Reads.of_own h, (own_cap h).1⟩
end Go.Proofs.YtjbedcgacnnanaaDoor

namespace Go.Proofs.YtjbedcgacnnanaaDoor
set_option linter.unusedSimpArgs false
set_option linter.unusedVariables false

theorem dotK_sum (a b : Nat → Nat → UInt8) (i j : Nat) : ∀ k, dotK a b i j k = Lin.sum (fun t => fm (a i t) (b t j)) k
  | 0 => rfl
  | k + 1 => by rw [dotK, dotK_sum a b i j k]; rfl
theorem dotK_mm (a b : Nat → Nat → UInt8) (i j k : Nat) : dotK a b i j k = Lin.mm k a b i j := dotK_sum a b i j k
theorem cellAt_cellsTo (R C i j : Nat) (f : Nat → Nat → UInt8) (hi : i < R) (hj : j < C) : cellAt (cellsTo C f (R * C)) C i j = f i j := by
  unfold cellAt
  rw [List.getD_eq_getElem?_getD, cellsTo_get _ _ _ _ (row_lt hi hj), (div_row hj).1, (div_row hj).2]; rfl
theorem mulC_eq (xa xb : List UInt8) (R K C : Nat) : mulC xa xb R K C = cellsTo C (Lin.mm K (cellAt xa K) (cellAt xb C)) (R * C) := by
  unfold mulC
  congr 1
  funext i j
  exact dotK_mm _ _ _ _ _
theorem mulC_len (xa xb : List UInt8) (R K C : Nat) : (mulC xa xb R K C).length = R * C := cellsTo_len _ _ _
theorem mulC_at (xa xb : List UInt8) (R K C i j : Nat) (hi : i < R) (hj : j < C) : cellAt (mulC xa xb R K C) C i j = Lin.mm K (cellAt xa K) (cellAt xb C) i j := by
  rw [mulC_eq, cellAt_cellsTo R C i j _ hi hj]
theorem mulC_assoc (xa xb xc : List UInt8) (R K C D : Nat) : mulC (mulC xa xb R K C) xc R C D = mulC xa (mulC xb xc K C D) R K D := by
  rw [mulC_eq (mulC xa xb R K C), mulC_eq xa (mulC xb xc K C D)]
  apply cellsTo_congr
  intro i j hi hj
  rw [Lin.mm_congr (fun t ht => mulC_at xa xb R K C i t hi ht) (fun _ _ => rfl), Lin.mm_assoc]
  exact (Lin.mm_congr (fun _ _ => rfl) (fun t ht => mulC_at xb xc K C D t j ht hj)).symm
theorem one_eq : oneC = Lin.one := rfl
theorem mulC_id (xa : List UInt8) (R K : Nat) (h : xa.length = R * K) : mulC (cellsTo R oneC (R * R)) xa R R K = xa := by
  rw [mulC_eq]
  conv => rhs; rw [cellsTo_of xa R K h]
  apply cellsTo_congr
  intro i j hi hj
  rw [Lin.mm_congr (fun t ht => cellAt_cellsTo R R i t oneC hi ht) (fun _ _ => rfl), one_eq, Lin.mm_one_left _ _ hi]
end Go.Proofs.YtjbedcgacnnanaaDoor

namespace Go.Proofs.YtjbedcgacnnanaaDoor
set_option linter.unusedSimpArgs false
set_option linter.unusedVariables false
open Go.RowKit

/-- a fresh slice is handed back -/
def SlRet (E : TypeId) (w : World) (n : Nat) (r : List Value) (e : Ending) (w' : World) : Prop := ∃ A c, e = .returned (.slice A n c) ∧ Fresh w w' E A n c r

theorem info_b : (Tryd.prog.info? 5).map (fun i => (i.zero, i.size, i.bytes)) = some (some (.int .u8 0), 1, 1) := by kernel_rfl
theorem b8_one (l : List UInt8) : ∀ u ∈ l.map B8, u.oneCell' = true := by
  intro u hu
  obtain ⟨b, _, rfl⟩ := List.mem_map.1 hu
  rfl
/-- an empty slice that is not nil is owned -/
theorem own_empty (w : World) (base : Nat) (e : TypeId) (hb : base ≤ w.heap.size) : (w.alloc (.cells #[] e)).ownsRow base e 1 (.slice (some ⟨w.heap.size, 0, none⟩) 0 0) 0 [] :=
  World.ownsRow_made w #[] 0 hb (by unfold maxLen; omega) (by simp)

set_option maxRecDepth 100000 in
theorem clone_any (A : Option Addr) (n c B : Nat) (xs : List UInt8) (w : World) (h : Reads w B 1 A n (xs.map B8)) (hB : B ≤ w.heap.size) (hn : n ≤ 140737488355328) :
    Calls Tryd.prog 32 #[.slice A n c] w (SlRet 5 w n (xs.map B8)) := by
  have he := fun W => Lib.run_eql_slice_nil (P := Tryd.prog) W 27 5 A n c 0 0 Tryd.underlying27
  obtain ⟨i0, hi, hz0, hz1, hz2⟩ := info_parts info_b
  replace hi := Lib.hid hi; replace hz0 := Lib.hid hz0; replace hz1 := Lib.hid hz1; replace hz2 := Lib.hid hz2
  have H := Lib.hid h
  cases A with
  | none =>
    have h0 : n = 0 := by
      rcases Nat.eq_zero_or_pos n with h0 | h0
      · exact h0
      · obtain ⟨ad, he, _⟩ := h.2 h0; cases he
    have hx : xs = [] := List.eq_nil_of_length_eq_zero (by have := h.len; omega)
    subst h0
    subst hx
    simp only [Option.isNone] at he
    clear h hB hn
    go_enter Tryd.func32, Tryd.ntmps32
    go_wp2_with fail
    go_ret
    exact ⟨none, 0, rfl, Fresh.nil w _⟩
  | some ad =>
    simp only [Option.isNone] at he
    clear h
    go_enter Tryd.func32, Tryd.ntmps32
    go_wp2_with (at_builtin; refine wpList_append_any _ rfl (.tmp 5) (.tmp 6) 27 rfl w.heap.size 5 i0 (.int .u8 0) 1 1 Tryd.underlying27 hi.out hz0.out hz1.out hz2.out rfl (by omega) (some ⟨w.heap.size, 0, none⟩) 0 0 [] rfl (own_empty w _ _ (Nat.le_refl _)) B (some ad) n c _ rfl (H.out.alloc hB _) (b8_one _) ?_ ?_ ?_ ?_; rotate_left 3; intro A1 c1 w2 ho1 hg1 _hs1; have HB2 := Lib.hid (below_app (below_alloc (Below.refl _ _) _) hg1 (own_empty w _ _ (Nat.le_refl _)) (below_alloc (Below.refl _ w) _).size); replace ho1 := Lib.hid ho1; clear hg1 _hs1)
    rotate_left 1
    · unfold maxLen; omega
    · omega
    · exact (below_alloc (Below.refl _ w) _).size
    go_ret
    refine ⟨A1, c1, by simp, ?_, HB2.out⟩
    have h := ho1.out
    simpa using h

end Go.Proofs.YtjbedcgacnnanaaDoor

namespace Go.Proofs.YtjbedcgacnnanaaDoor
set_option linter.unusedSimpArgs false
set_option linter.unusedVariables false
open Go.RowKit

theorem grown_trans {a b c : World} {row : Option Nat} (h : a.grownBy b row) (k : b.grownBy c row) : a.grownBy c row :=
  ⟨k.os.trans h.os, k.tape.trans h.tape, k.output.trans h.output, Nat.le_trans h.size k.size, fun j hj hr => (k.block j (Nat.lt_of_lt_of_le hj h.size) hr).trans (h.block j hj hr)⟩
theorem grown_below {a b : World} (h : Below a.heap.size a b) (row : Option Nat) : a.grownBy b row := ⟨h.os, h.tape, h.output, h.size, fun j hj _ => h.block j hj⟩
/-- the slots of a matrix at the offset o of block g, its cells the call's own -/
structure Wk (W : World) (base g o R C : Nat) (A : Option Addr) (n k : Nat) (f : Nat → Nat → UInt8) : Prop where
  c0 : W.cell? ⟨g, o, none⟩ = some (.int .i64 R)
  c1 : W.cell? ⟨g, o + 1, none⟩ = some (.int .i64 C)
  c2 : W.cell? ⟨g, o + 2, none⟩ = some (.slice A n k)
  own : W.ownsRow base 5 1 (.slice A n k) n ((cellsTo C f (R * C)).map B8)
  hg : g < W.heap.size
  ne : A.map (·.block) ≠ some g
  bs : base ≤ W.heap.size
theorem Wk.grown {W W' : World} {base g o R C n k : Nat} {A : Option Addr} {f : Nat → Nat → UInt8} (h : Wk W base g o R C A n k f) {row : Option Nat} (hg : W.grownBy W' row) (h1 : row ≠ some g) (h2 : ∀ a, A = some a → row ≠ some a.block) : Wk W' base g o R C A n k f :=
  have hc : ∀ p : Addr, p.block = g → W'.cell? p = W.cell? p := fun p hp => World.cell?_of_block (by rw [hp]; exact hg.block g h.hg (Ne.symm h1))
  ⟨(hc _ rfl).trans h.c0, (hc _ rfl).trans h.c1, (hc _ rfl).trans h.c2, ownsRow_block h.own (fun a ha => hg.block _ (by
    have := own_row h.own a.block (by rw [ha]; rfl)
    obtain ⟨cs, fr, hh⟩ := this
    exact lt_of_heap hh) (Ne.symm (h2 a ha))), Nat.lt_of_lt_of_le h.hg hg.size, h.ne, Nat.le_trans h.bs hg.size⟩
theorem Wk.below {W W' : World} {base g o R C n k : Nat} {A : Option Addr} {f : Nat → Nat → UInt8} (h : Wk W base g o R C A n k f) (hB : Below W.heap.size W W') : Wk W' base g o R C A n k f :=
  h.grown (grown_below hB none) (by simp) (fun a _ => by simp)
/-- the cells are others now -/
theorem Wk.turn {W W' : World} {base g o R C n k : Nat} {A : Option Addr} {f f' : Nat → Nat → UInt8} (h : Wk W base g o R C A n k f) (hg : W.grownBy W' (A.map (·.block))) (ho : W'.ownsRow base 5 1 (.slice A n k) n ((cellsTo C f' (R * C)).map B8)) : Wk W' base g o R C A n k f' :=
  have hc : ∀ p : Addr, p.block = g → W'.cell? p = W.cell? p := fun p hp => World.cell?_of_block (by rw [hp]; exact hg.block g h.hg (Ne.symm h.ne))
  ⟨(hc _ rfl).trans h.c0, (hc _ rfl).trans h.c1, (hc _ rfl).trans h.c2, ho, Nat.lt_of_lt_of_le h.hg hg.size, h.ne, Nat.le_trans h.bs hg.size⟩
theorem Wk.eqf {W : World} {base g o R C n k : Nat} {A : Option Addr} {f f' : Nat → Nat → UInt8} (h : Wk W base g o R C A n k f) (e : ∀ i j, i < R → j < C → f i j = f' i j) : Wk W base g o R C A n k f' :=
  { h with own := by rw [← cellsTo_congr R C f f' e]; exact h.own }
theorem Wk.len {W : World} {base g o R C n k : Nat} {A : Option Addr} {f : Nat → Nat → UInt8} (h : Wk W base g o R C A n k f) : n = R * C ∧ n ≤ k := by
  have := h.own.1
  rw [List.length_map, cellsTo_len] at this
  exact ⟨by omega, (own_cap h.own).1⟩
theorem Wk.reads {W : World} {base g o R C n k : Nat} {A : Option Addr} {f : Nat → Nat → UInt8} (h : Wk W base g o R C A n k f) {i : Nat} (hi : i < R) : Reads W W.heap.size 1 (cutA A k (i * C) 1) C ((rowF C (f i)).map B8) := by
  have := row_reads (i := i) (Reads.of_own h.own) h.len.1 hi h.len.2
  rw [rowC_cellsTo R C i f hi] at this
  exact this

set_option maxRecDepth 100000 in
theorem wrow_any {w : World} {base g o R C n k : Nat} {A : Option Addr} {f : Nat → Nat → UInt8} (h : Wk w base g o R C A n k f) (ho : o = 0 ∨ o = 3) (i : Nat) (hR : R ≤ 255) (hC : C ≤ 255) (hi : i < R) :
    Calls Tryd.prog 84 #[.pointer (some ⟨g, o, none⟩), .int .i64 i] w fun e w' => e = .returned (.slice (cutA A k (i * C) 1) C (k - i * C)) ∧ Below w.heap.size w w' := by
  have RW := Lib.hid (fun W => row_any R C i A n k W hR hC hi h.len.1 h.len.2)
  have c0 := h.c0
  have c1 := h.c1
  have c2 := h.c2
  have hg := h.hg
  clear h
  rcases ho with rfl | rfl
  · simp only [Nat.zero_add] at c1 c2
    go_enter Tryd.func84, Tryd.ntmps84
    go_wp2_with fail
    refine (RW.out _).mono ?_; rintro e w' ⟨rfl, hB⟩
    go_wp2_with fail
    go_ret
    exact ⟨rfl, hB⟩
  · simp only [Nat.reduceAdd] at c1 c2
    go_enter Tryd.func84, Tryd.ntmps84
    go_wp2_with fail
    refine (RW.out _).mono ?_; rintro e w' ⟨rfl, hB⟩
    go_wp2_with fail
    go_ret
    exact ⟨rfl, hB⟩
end Go.Proofs.YtjbedcgacnnanaaDoor

namespace Go.Proofs.YtjbedcgacnnanaaDoor
set_option linter.unusedSimpArgs false
set_option linter.unusedVariables false
open Go.RowKit

theorem own_far {W W' : World} {b n c : Nat} {A A' : Option Addr} {xs : List Value} (h : W.ownsRow b 5 1 (.slice A n c) n xs) (hA : ∀ a, A' = some a → a.block < b) (hg : W.grownBy W' (A'.map (·.block))) : W'.ownsRow b 5 1 (.slice A n c) n xs :=
  ownsRow_block h (fun a ha => by
    obtain ⟨cs, fr, hh⟩ := own_row h a.block (by rw [ha]; rfl)
    have hb := h.lt a.block (by rw [ownBlock_slice, ha]; rfl)
    refine hg.block _ (lt_of_heap hh) (fun e => ?_)
    cases A' with
    | none => simp at e
    | some a' =>
      simp at e
      have := hA a' rfl
      omega)
theorem Wk.lt {W : World} {base g o R C n k : Nat} {A : Option Addr} {f : Nat → Nat → UInt8} (h : Wk W base g o R C A n k f) : ∀ a, A = some a → base ≤ a.block ∧ a.block < W.heap.size := fun a ha => h.own.lt a.block (by rw [ownBlock_slice, ha]; rfl)
theorem Wk.off {W : World} {base g o R C n k : Nat} {A : Option Addr} {f : Nat → Nat → UInt8} (h : Wk W base g o R C A n k f) {i : Nat} (hi : i < R) : i * C + C ≤ n := by
  have hle : (i + 1) * C ≤ R * C := Nat.mul_le_mul_right _ hi
  rw [Nat.succ_mul] at hle
  rw [h.len.1]; exact hle
theorem u8_size : (Tryd.prog.info? 5).map (·.size) = some 1 := by kernel_rfl
/-- a row put in -/
theorem Wk.put {W W' : World} {base g o R C n k : Nat} {A : Option Addr} {f : Nat → Nat → UInt8} (h : Wk W base g o R C A n k f) {i : Nat} (hi : i < R) {x : Nat → UInt8} (ho : W'.ownsRow base 5 1 (.slice A n k) n (splice ((cellsTo C f (R * C)).map B8) (i * C) ((rowF C x).map B8))) (hg : W.grownBy W' (A.map (·.block))) :
    Wk W' base g o R C A n k (fun r t => if r = i then x t else f r t) := by
  refine h.turn hg ?_
  rw [← put_cellsTo R C i f x hi, splice_map]
  exact ho

set_option maxRecDepth 100000 in
set_option maxHeartbeats 2000000 in
theorem swap_any {w : World} {base g o R C n k : Nat} {A : Option Addr} {f : Nat → Nat → UInt8} (h : Wk w base g o R C A n k f) (ho : o = 0 ∨ o = 3) (i j : Nat) (hR : R ≤ 255) (hC : C ≤ 255) (hi : i < R) (hj : j < R) :
    Calls Tryd.prog 85 #[.pointer (some ⟨g, o, none⟩), .int .i64 i, .int .i64 j] w fun e w' => e = .returned (.tuple #[]) ∧ Wk w' base g o R C A n k (Lin.swapF i j f) ∧ w.grownBy w' (A.map (·.block)) := by
  have H := Lib.hid h
  have RI := Lib.hid (fun W f' (hW : Wk W base g o R C A n k f') => wrow_any hW ho i hR hC hi)
  have RJ := Lib.hid (fun W f' (hW : Wk W base g o R C A n k f') => wrow_any hW ho j hR hC hj)
  have CI := Lib.hid (fun W (hW : Wk W base g o R C A n k f) => clone_any (cutA A k (i * C) 1) C (k - i * C) W.heap.size (rowF C (f i)) W (hW.reads hi) (Nat.le_refl _) (by omega))
  have CJ := Lib.hid (fun W (hW : Wk W base g o R C A n k f) => clone_any (cutA A k (j * C) 1) C (k - j * C) W.heap.size (rowF C (f j)) W (hW.reads hj) (Nat.le_refl _) (by omega))
  unfold SlRet at CI CJ
  have OI := h.off hi
  have OJ := h.off hj
  replace OI := Lib.hid OI; replace OJ := Lib.hid OJ
  have HA := Lib.hid (fun a ha => (h.lt a ha).2)
  have HSW : Hid (∀ r t, (fun (r t : Nat) => if r = j then f i t else (fun (r t : Nat) => if r = i then f j t else f r t) r t) r t = Lin.swapF i j f r t) := fun r t => by
    show (if r = j then f i t else if r = i then f j t else f r t) = if r = i then f j t else if r = j then f i t else f r t
    by_cases h1 : r = j
    · by_cases h2 : r = i
      · subst h1; subst h2; rfl
      · rw [if_pos h1, if_neg h2, if_pos h1]
    · by_cases h2 : r = i
      · rw [if_neg h1, if_pos h2, if_pos h2]
      · rw [if_neg h1, if_neg h2, if_neg h2, if_neg h1]
  clear h hR hC
  go_enter Tryd.func85, Tryd.ntmps85
  go_wp2_with fail
  refine (RI.out _ _ H.out).mono ?_; rintro e w1 ⟨rfl, hB1⟩
  have H1 := Lib.hid (H.out.below hB1)
  have G1 := Lib.hid (grown_below hB1 (A.map (·.block)))
  go_wp2_with fail
  refine (CI.out _ H1.out).mono ?_; rintro e w2 ⟨Aa, ca, rfl, hfa⟩
  have H2 := Lib.hid (H1.out.below hfa.below)
  have G2 := Lib.hid (grown_trans G1.out (grown_below hfa.below (A.map (·.block))))
  have Fa := Lib.hid (own_base hfa.1 hB1.size)
  clear hfa hB1 H1 G1
  go_wp2_with fail
  refine (RJ.out _ _ H2.out).mono ?_; rintro e w3 ⟨rfl, hB3⟩
  have H3 := Lib.hid (H2.out.below hB3)
  have G3 := Lib.hid (grown_trans G2.out (grown_below hB3 (A.map (·.block))))
  replace Fa := Lib.hid (own_belowL Fa.out hB3)
  clear hB3 H2 G2
  go_wp2_with fail
  refine (CJ.out _ H3.out).mono ?_; rintro e w4 ⟨Ab, cb, rfl, hfb⟩
  have H4 := Lib.hid (H3.out.below hfb.below)
  have G4 := Lib.hid (grown_trans G3.out (grown_below hfb.below (A.map (·.block))))
  replace Fa := Lib.hid (own_belowL Fa.out hfb.below)
  have Fb := Lib.hid (own_base hfb.1 G3.out.size)
  clear hfb H3 G3
  go_wp2_with fail
  refine (RI.out _ _ H4.out).mono ?_; rintro e w5 ⟨rfl, hB5⟩
  have H5 := Lib.hid (H4.out.below hB5)
  have G5 := Lib.hid (grown_trans G4.out (grown_below hB5 (A.map (·.block))))
  replace Fa := Lib.hid (own_belowL Fa.out hB5)
  replace Fb := Lib.hid (own_belowL Fb.out hB5)
  clear hB5 H4 G4
  go_wp2_with (refine wpList_copy_in rfl (.tmp 18) (.tmp 19) 27 27 rfl 5 Tryd.underlying27 u8_size A n k (i * C) C base _ _ rfl H5.out.own OI.out Ab cb rfl w5.heap.size _ (Reads.of_own Fb.out) (row_one (Reads.of_own Fb.out)) ?_; intro w6 ho6 hg6)
  have H6 := Lib.hid (H5.out.put hi ho6 hg6)
  have G6 := Lib.hid (grown_trans G5.out hg6)
  replace Fa := Lib.hid (own_far Fa.out HA.out hg6)
  clear ho6 hg6 H5 G5 Fb
  go_wp2_with fail
  refine (RJ.out _ _ H6.out).mono ?_; rintro e w7 ⟨rfl, hB7⟩
  have H7 := Lib.hid (H6.out.below hB7)
  have G7 := Lib.hid (grown_trans G6.out (grown_below hB7 (A.map (·.block))))
  replace Fa := Lib.hid (own_belowL Fa.out hB7)
  clear hB7 H6 G6
  go_wp2_with (refine wpList_copy_in rfl (.tmp 23) (.tmp 24) 27 27 rfl 5 Tryd.underlying27 u8_size A n k (j * C) C base _ _ rfl H7.out.own OJ.out Aa ca rfl w7.heap.size _ (Reads.of_own Fa.out) (row_one (Reads.of_own Fa.out)) ?_; intro w8 ho8 hg8)
  go_end0
  exact ⟨rfl, (H7.out.put hj ho8 hg8).eqf (fun r t _ _ => HSW.out r t), grown_trans G7.out hg8⟩

/-- c times the row j added to the row i -/
def addF (i : Nat) (c : UInt8) (j : Nat) (f : Nat → Nat → UInt8) (r t : Nat) : UInt8 := if r = i then f i t ^^^ fm c (f j t) else f r t
set_option maxRecDepth 100000 in
set_option maxHeartbeats 2000000 in
theorem wadd_any {w : World} {base g o R C n k : Nat} {A : Option Addr} {f : Nat → Nat → UInt8} (h : Wk w base g o R C A n k f) (ho : o = 0 ∨ o = 3) (i : Nat) (c : UInt8) (j : Nat) (hR : R ≤ 255) (hC : C ≤ 255) (hi : i < R) (hj : j < R) :
    Calls Tryd.prog 87 #[.pointer (some ⟨g, o, none⟩), .int .i64 i, .int .u8 (c.toNat : Int), .int .i64 j] w fun e w' => e = .returned (.tuple #[]) ∧ Wk w' base g o R C A n k (addF i c j f) ∧ w.grownBy w' (A.map (·.block)) := by
  have H := Lib.hid h
  have RI := Lib.hid (fun W f' (hW : Wk W base g o R C A n k f') => wrow_any hW ho i hR hC hi)
  have RJ := Lib.hid (fun W f' (hW : Wk W base g o R C A n k f') => wrow_any hW ho j hR hC hj)
  have AD := Lib.hid (fun W (hW : Wk W base g o R C A n k f) => show Calls Tryd.prog 59 #[.slice (cutA A k (i * C) 1) C (k - i * C), .int .u8 (c.toNat : Int), .slice (cutA A k (j * C) 1) C (k - j * C)] W (SlErrN 5 W C (rowF C (fun t => f i t ^^^ fm c (f j t))) 0) by
    have h3 := Gfb.add_any (cutA A k (i * C) 1) (cutA A k (j * C) 1) C C (k - i * C) (k - j * C) (rowF C (f i)) (rowF C (f j)) c W (hW.reads hi) (hW.reads hj) (by omega) (by omega)
    unfold addR eLen at h3
    rw [rowF_len, rowF_len, if_pos rfl, if_pos rfl, addL_rowF, SlErrN_eq (rowF_len _ _)] at h3
    exact h3)
  unfold SlErrN at AD
  have OI := h.off hi
  replace OI := Lib.hid OI
  have HX : Hid (∀ r t, (fun (r t : Nat) => if r = i then (fun t => f i t ^^^ fm c (f j t)) t else f r t) r t = addF i c j f r t) := fun r t => rfl
  have hc8 := c.toNat_lt
  obtain ⟨cn, hcn⟩ : ∃ cn, c.toNat = cn := ⟨_, rfl⟩
  rw [hcn] at AD hc8
  rw [hcn]
  clear h hR hC hcn
  go_enter Tryd.func87, Tryd.ntmps87
  go_wp2_with fail
  refine (RI.out _ _ H.out).mono ?_; rintro e w1 ⟨rfl, hB1⟩
  have H1 := Lib.hid (H.out.below hB1)
  have G1 := Lib.hid (grown_below hB1 (A.map (·.block)))
  clear hB1
  go_wp2_with fail
  refine (RJ.out _ _ H1.out).mono ?_; rintro e w2 ⟨rfl, hB2⟩
  have H2 := Lib.hid (H1.out.below hB2)
  have G2 := Lib.hid (grown_trans G1.out (grown_below hB2 (A.map (·.block))))
  clear hB2 H1 G1
  go_wp2_with fail
  refine (AD.out _ H2.out).mono ?_; rintro e w3 ⟨As, cs, rfl, hf⟩
  have H3 := Lib.hid (H2.out.below hf.below)
  have G3 := Lib.hid (grown_trans G2.out (grown_below hf.below (A.map (·.block))))
  have Fs := Lib.hid hf.1
  clear hf H2 G2
  go_wp2_with fail
  refine (RI.out _ _ H3.out).mono ?_; rintro e w5 ⟨rfl, hB5⟩
  have H5 := Lib.hid (H3.out.below hB5)
  have G5 := Lib.hid (grown_trans G3.out (grown_below hB5 (A.map (·.block))))
  replace Fs := Lib.hid (own_belowL Fs.out hB5)
  clear hB5 H3 G3
  go_wp2_with (refine wpList_copy_in rfl (.tmp 23) (.tmp 24) 27 27 rfl 5 Tryd.underlying27 u8_size A n k (i * C) C base _ _ rfl H5.out.own OI.out As cs rfl w5.heap.size _ (Reads.of_own Fs.out) (row_one (Reads.of_own Fs.out)) ?_; intro w6 ho6 hg6)
  go_end0
  exact ⟨rfl, (H5.out.put hi ho6 hg6).eqf (fun r t _ _ => HX.out r t), grown_trans G5.out hg6⟩
end Go.Proofs.YtjbedcgacnnanaaDoor

namespace Go.Proofs.YtjbedcgacnnanaaDoor
set_option linter.unusedSimpArgs false
set_option linter.unusedVariables false
open Go.RowKit

theorem set_cellsTo (R C i j : Nat) (f : Nat → Nat → UInt8) (v : UInt8) (hi : i < R) (hj : j < C) : (cellsTo C f (R * C)).set (i * C + j) v = cellsTo C (fun r t => if r = i ∧ t = j then v else f r t) (R * C) := by
  apply List.ext_getElem?
  intro t
  have hlt := row_lt hi hj
  rw [List.getElem?_set, cellsTo_len]
  by_cases ht : t < R * C
  · rw [cellsTo_get _ _ _ _ ht, cellsTo_get _ _ _ _ ht]
    by_cases e : i * C + j = t
    · rw [if_pos e, if_pos hlt, ← e, (div_row hj).1, (div_row hj).2, if_pos ⟨rfl, rfl⟩]
    · rw [if_neg e]
      have hne : ¬ (t / C = i ∧ t % C = j) := fun h => e (by
        have := Nat.div_add_mod t C
        rw [h.1, h.2, Nat.mul_comm] at this
        exact this)
      rw [if_neg hne]
  · rw [cellsTo_none _ _ _ _ ht, if_neg (by omega), cellsTo_none _ _ _ _ ht]

set_option maxRecDepth 100000 in
set_option maxHeartbeats 2000000 in
theorem scale_any {w : World} {base g o R C n k : Nat} {A : Option Addr} {f : Nat → Nat → UInt8} (h : Wk w base g o R C A n k f) (ho : o = 0 ∨ o = 3) (i : Nat) (c : UInt8) (hR : R ≤ 255) (hC : C ≤ 255) (hi : i < R) :
    Calls Tryd.prog 86 #[.pointer (some ⟨g, o, none⟩), .int .i64 i, .int .u8 (c.toNat : Int)] w fun e w' => e = .returned (.tuple #[]) ∧ Wk w' base g o R C A n k (Lin.scaleF i c f) ∧ w.grownBy w' (A.map (·.block)) := by
  have H := Lib.hid h
  have RI := Lib.hid (fun W f' (hW : Wk W base g o R C A n k f') => wrow_any hW ho i hR hC hi)
  have RW := Lib.hid (fun W => Gfb.row_any c.toNat W c.toNat_lt)
  have hsz : (Tryd.prog.info? 107).map (·.size) = some (Gfb.rowCells c.toNat).size := by rw [Gfb.rowCells_size]; exact (zero_of_info Gfb.info_arr).2
  replace hsz := Lib.hid hsz
  have OI := h.off hi
  replace OI := Lib.hid OI
  have HA := Lib.hid (fun a ha => (h.lt a ha).2)
  have HI := Lib.hid hi
  have HG : Hid (g < w.heap.size) := h.hg
  have LEN := Lib.hid h.len
  have hz := (zero_of_info Gfb.info_arr).1
  clear h hR
  go_enter Tryd.func86, Tryd.ntmps86
  go_wp2_with fail
  refine (RW.out _).mono ?_; rintro e w1 ⟨rfl, hB1⟩
  have H1 := Lib.hid (H.out.below hB1)
  have G1 := Lib.hid (grown_below hB1 (A.map (·.block)))
  have hw1 : w.heap.size ≤ w1.heap.size := hB1.size
  clear hB1
  go_wp2_with (refine wpList_store_box rfl 107 _ _ rfl w1.heap.size (Gfb.rowCells c.toNat) rfl rfl 107 Gfb.zc256 (Blk.new _ _ _) hsz.out (Gfb.zc256_size _) (Gfb.rowCells_one _) ?_; intro w2 hb2 hf2 hB2 hs2)
  have hb12 : Below w1.heap.size w1 w2 := hB2 _ _ ((Below.refl _ _).alloc (Nat.le_refl _) _) (Nat.le_refl _)
  have H2 := Lib.hid (H1.out.below hb12)
  have G2 := Lib.hid (grown_trans G1.out (grown_below hb12 (A.map (·.block))))
  replace hb2 := Lib.hid hb2
  clear hf2 hB2 hs2 hb12 H1 G1
  go_wp2_with fail
  refine (RI.out _ _ H2.out).mono ?_; rintro e w3 ⟨rfl, hB3⟩
  have H3 := Lib.hid (H2.out.below hB3)
  have G3 := Lib.hid (grown_trans G2.out (grown_below hB3 (A.map (·.block))))
  have Hb3 := Lib.hid (hb2.out.below hB3 hb2.out.lt)
  clear hB3 H2 G2 hb2
  generalize hg1 : w1.heap.size = g1 at *
  replace hg1 := Lib.hid hg1
  obtain ⟨Ac, hAc⟩ : ∃ Ac, Hid (cutA A k (i * C) 1 = Ac) := ⟨_, rfl⟩
  obtain ⟨kc, hkc⟩ : ∃ kc, Hid (k - i * C = kc) := ⟨_, rfl⟩
  rw [hAc.out, hkc.out]
  obtain ⟨cn, hcn⟩ : ∃ cn, Hid (c.toNat = cn) := ⟨_, rfl⟩
  rw [hcn.out] at Hb3
  rw [hcn.out]
  go_wp2_with fail
  go_loopw [17] (fun v17 wr => ∃ kk : Nat, v17 = .int .i64 kk ∧ kk ≤ C ∧ Hid (Wk wr base g o R C A n k (fun r t => if r = i ∧ t < kk then fm c (f r t) else f r t)) ∧ Hid (Blk wr g1 107 (Gfb.rowCells cn)) ∧ Hid (w.grownBy wr (A.map (·.block)))) (fun v17 _ => C - (intOf v17).toNat)
  case atStart => exact ⟨0, rfl, by omega, H3.out.eqf (fun r t _ _ => by simp), Hb3, G3⟩
  case round =>
    clear H3 Hb3 G3
    obtain ⟨kk, rfl, hkC, HW, Hb, HG2⟩ := hrel
    by_cases hlt : kk < C
    · have hlt' : (kk : Int) < (C : Int) := by omega
      obtain ⟨gA, hA⟩ : ∃ gA, A = some ⟨gA, 0, none⟩ := by
        rcases HW.out.own.2 with ⟨_, h0⟩ | ⟨g', cap, cur, hv, _⟩
        · have := OI.out; omega
        · injection hv with hA; exact ⟨g', hA⟩
      have hAc2 : Ac = some ⟨gA, i * C, none⟩ := by
        rw [← hAc.out, hA]
        unfold cutA
        rw [if_neg (by have := OI.out; have := LEN.out.2; omega), Nat.mul_one, Option.map_some, add_zero_off]
      obtain ⟨p, hp⟩ : ∃ p, p = i * C := ⟨_, rfl⟩
      rw [← hp] at hAc2
      have HO := Lib.hid HW.out.own
      rw [hA] at HO
      have hxl : p + kk < n := by have := OI.out; omega
      have hcell : wr.cell? ⟨gA, p + kk, none⟩ = some (.int .u8 ((f i kk).toNat : Int)) := by
        rw [HO.out.cellAt (p + kk) (by omega), List.getElem?_map, cellsTo_get _ _ _ _ (by rw [← LEN.out.1]; omega), hp, (div_row hlt).1, (div_row hlt).2]
        simp [B8]
      have hrow : wr.cell? ⟨g1, (f i kk).toNat, none⟩ = some (.int .u8 ((fm c (f i kk)).toNat : Int)) := by
        rw [Hb.out.cell, Gfb.rowCells_at _ _ (f i kk).toNat_lt, ← hcn.out, fm_toNat]
      have hfro : wr.frozen? ⟨gA, p + kk, none⟩ = false := HO.out.frozenAt _
      have bx : (f i kk).toNat < 256 := (f i kk).toNat_lt
      have hne1 : g1 ≠ gA := by
        have h1 : gA < w.heap.size := HA.out _ hA
        omega
      replace hA := Lib.hid hA
      subst hAc2
      replace hp := Lib.hid hp
      have hpb : p < 9223372036854775807 := by have := (own_cap HO.out); have := this.2; unfold maxLen at this; omega
      go_wp2_with fail
      go_roundw
      case rel =>
        obtain ⟨ho2, hg2⟩ := HO.out.stored (p + kk) (B8 (fm c (f i kk)))
        rw [← List.map_set, hp.out, set_cellsTo R C i kk _ _ HI.out hlt] at ho2
        rw [← hp.out] at ho2
        have hgA : wr.grownBy (wr.setCell ⟨gA, p + kk, none⟩ (B8 (fm c (f i kk)))) (A.map (·.block)) := by rw [hA.out]; exact hg2
        rw [← hA.out] at ho2
        refine ⟨kk + 1, by go_num, by omega, (HW.out.turn hgA ho2).eqf (fun r t _ _ => ?_), Hb.out.far (p := ⟨gA, p + kk, none⟩) (by show g1 ≠ gA; omega) _, grown_trans HG2.out hgA⟩
        by_cases h1 : r = i
        · subst h1
          by_cases h2 : t = kk
          · subst h2; simp
          · by_cases h3 : t < kk
            · rw [if_neg (by omega), if_pos ⟨rfl, h3⟩, if_pos ⟨rfl, by omega⟩]
            · rw [if_neg (by omega), if_neg (by omega), if_neg (by omega)]
        · rw [if_neg (by omega), if_neg (by omega), if_neg (by omega)]
      case measure => simp [intOf]; omega
    · have hge : (C : Int) ≤ kk := by omega
      go_wp2_with fail
      go_end0
      refine ⟨rfl, HW.out.eqf (fun r t _ ht => ?_), HG2.out⟩
      unfold Lin.scaleF
      by_cases h1 : r = i
      · rw [if_pos ⟨h1, by omega⟩, if_pos h1]
      · rw [if_neg (by omega), if_neg h1]
end Go.Proofs.YtjbedcgacnnanaaDoor

namespace Go.Proofs.YtjbedcgacnnanaaDoor
set_option linter.unusedSimpArgs false
set_option linter.unusedVariables false
open Go.RowKit

/-- the pair at block g -/
structure Pw (W : World) (base g R C : Nat) (A : Option Addr) (n k : Nat) (f : Nat → Nat → UInt8) (A' : Option Addr) (n' k' : Nat) (f' : Nat → Nat → UInt8) : Prop where
  a : Wk W base g 0 R C A n k f
  b : Wk W base g 3 R R A' n' k' f'
  ne : ∀ x y, A = some x → A' = some y → x.block ≠ y.block
theorem Pw.below {W W' : World} {base g R C n k n' k' : Nat} {A A' : Option Addr} {f f' : Nat → Nat → UInt8} (h : Pw W base g R C A n k f A' n' k' f') (hB : Below W.heap.size W W') : Pw W' base g R C A n k f A' n' k' f' := ⟨h.a.below hB, h.b.below hB, h.ne⟩
theorem Pw.opA {W W' : World} {base g R C n k n' k' : Nat} {A A' : Option Addr} {f f' f2 : Nat → Nat → UInt8} (h : Pw W base g R C A n k f A' n' k' f') (ha : Wk W' base g 0 R C A n k f2) (hg : W.grownBy W' (A.map (·.block))) : Pw W' base g R C A n k f2 A' n' k' f' :=
  ⟨ha, h.b.grown hg h.a.ne (fun y hy e => by
    cases A with
    | none => simp at e
    | some x => simp at e; exact h.ne x y rfl hy e), h.ne⟩
theorem Pw.opB {W W' : World} {base g R C n k n' k' : Nat} {A A' : Option Addr} {f f' f2 : Nat → Nat → UInt8} (h : Pw W base g R C A n k f A' n' k' f') (hb : Wk W' base g 3 R R A' n' k' f2) (hg : W.grownBy W' (A'.map (·.block))) : Pw W' base g R C A n k f A' n' k' f2 :=
  ⟨h.a.grown hg h.b.ne (fun x hx e => by
    cases A' with
    | none => simp at e
    | some y => simp at e; exact h.ne x y hx rfl e.symm), hb, h.ne⟩
theorem Pw.eqf {W : World} {base g R C n k n' k' : Nat} {A A' : Option Addr} {f f' f2 f2' : Nat → Nat → UInt8} (h : Pw W base g R C A n k f A' n' k' f') (e : ∀ i j, i < R → f i j = f2 i j) (e' : ∀ i j, i < R → f' i j = f2' i j) : Pw W base g R C A n k f2 A' n' k' f2' := ⟨h.a.eqf (fun i j hi _ => e i j hi), h.b.eqf (fun i j hi _ => e' i j hi), h.ne⟩
theorem Wk.frame {W W' w : World} {base g o R C n k : Nat} {A : Option Addr} {f : Nat → Nat → UInt8} (h : Wk W base g o R C A n k f) (hB : Below base w W) (hg : W.grownBy W' (A.map (·.block))) : Below base w W' :=
  hB.grown hg h.bs (fun j hj => by
    cases A with
    | none => simp at hj
    | some x =>
      simp at hj
      have := (h.lt x rfl).1
      omega)
theorem Pw.more {W W' w : World} {base g R C n k n' k' : Nat} {A A' : Option Addr} {f f' : Nat → Nat → UInt8} (h : Pw W base g R C A n k f A' n' k' f') (hB : Below base w W) (hk : Below W.heap.size W W') : Below base w W' := hB.trans (hk.mono h.a.bs)

theorem wrow_at {w : World} {base g o R C n k : Nat} {A : Option Addr} {f : Nat → Nat → UInt8} (h : Wk w base g o R C A n k f) (ho : o = 0 ∨ o = 3) (i col : Nat) (hR : R ≤ 255) (hC : C ≤ 255) (hi : i < R) (hc : col < C) :
    Calls Tryd.prog 84 #[.pointer (some ⟨g, o, none⟩), .int .i64 i] w fun e w' => ∃ ad, e = .returned (.slice (some ad) C (k - i * C)) ∧ w'.cell? (ad.add col) = some (.int .u8 ((f i col).toNat : Int)) ∧ Below w.heap.size w w' := by
  obtain ⟨ad, b, hA, hlt, hb, ec⟩ := (h.reads hi).byte (k := col) hc
  rw [rowF_get _ _ _ hc] at hb
  injection hb with hb
  subst hb
  have := wrow_any h ho i hR hC hi
  rw [hA] at this
  exact this.mono fun e w' hr => ⟨ad, hr.1, (hr.2.cell (p := ad.add col) (by rw [block_of_add]; exact hlt)).trans ec, hr.2⟩

/-- the rows below kk are cleared, but the row at -/
def clrF (at_ kk : Nat) (D : Nat → UInt8) (F : Nat → Nat → UInt8) (r t : Nat) : UInt8 := if r < kk ∧ r ≠ at_ then F r t ^^^ fm (D r) (F at_ t) else F r t
theorem clrF_zero (at_ : Nat) (D : Nat → UInt8) (F : Nat → Nat → UInt8) (r t : Nat) : F r t = clrF at_ 0 D F r t := by
  unfold clrF
  rw [if_neg (by omega)]
theorem clrF_here (at_ kk : Nat) (D : Nat → UInt8) (F : Nat → Nat → UInt8) (t : Nat) : clrF at_ kk D F kk t = F kk t := by
  unfold clrF
  rw [if_neg (by omega)]
theorem clrF_skip (at_ kk : Nat) (D : Nat → UInt8) (F : Nat → Nat → UInt8) (h : kk = at_ ∨ D kk = 0) (r t : Nat) : clrF at_ kk D F r t = clrF at_ (kk + 1) D F r t := by
  unfold clrF
  by_cases h1 : r = kk
  · subst h1
    rw [if_neg (by omega)]
    rcases h with h | h
    · rw [if_neg (by omega)]
    · by_cases h2 : r = at_
      · rw [if_neg (by omega)]
      · rw [if_pos ⟨by omega, h2⟩, h, zero_fm, fx_zero]
  · by_cases h2 : r < kk ∧ r ≠ at_
    · rw [if_pos h2, if_pos ⟨by omega, h2.2⟩]
    · rw [if_neg h2, if_neg (by omega)]
theorem clrF_add (at_ kk : Nat) (D : Nat → UInt8) (F : Nat → Nat → UInt8) (h : kk ≠ at_) (r t : Nat) : addF kk (D kk) at_ (clrF at_ kk D F) r t = clrF at_ (kk + 1) D F r t := by
  unfold addF
  by_cases h1 : r = kk
  · subst h1
    rw [if_pos rfl, clrF_here]
    unfold clrF
    rw [if_neg (by omega), if_pos ⟨by omega, h⟩]
  · rw [if_neg h1]
    unfold clrF
    by_cases h2 : r < kk ∧ r ≠ at_
    · rw [if_pos h2, if_pos ⟨by omega, h2.2⟩]
    · rw [if_neg h2, if_neg (by omega)]
theorem clrF_end (at_ R col p : Nat) (W X : Nat → Nat → UInt8) (r t : Nat) (hr : r < R) : clrF at_ R (fun r => Lin.scaleF at_ (fi (Lin.swapF at_ p W at_ col)) (Lin.swapF at_ p W) r col) (Lin.scaleF at_ (fi (Lin.swapF at_ p W at_ col)) (Lin.swapF at_ p X)) r t = Lin.stepW at_ col p W X r t := by
  unfold clrF Lin.stepW Lin.clearF
  by_cases h1 : r = at_
  · rw [if_neg (by omega), if_pos h1]
  · rw [if_pos ⟨hr, h1⟩, if_neg h1]

set_option maxRecDepth 100000 in
set_option maxHeartbeats 4000000 in
theorem clear_any {w : World} {base g R C n k n' k' : Nat} {A A' : Option Addr} {f f' : Nat → Nat → UInt8} (h : Pw w base g R C A n k f A' n' k' f') (at_ col : Nat) (hR : R ≤ 255) (hC : C ≤ 255) (hat : at_ < R) (hcol : col < C) :
    Calls Tryd.prog 79 #[.pointer (some ⟨g, 0, none⟩), .int .i64 at_, .int .i64 col] w fun e w' =>
      e = .returned (.bool (decide (Lin.pivot (fun t => f t col) R at_ < R))) ∧ Below base w w' ∧
      Pw w' base g R C A n k (if Lin.pivot (fun t => f t col) R at_ < R then Lin.stepW at_ col (Lin.pivot (fun t => f t col) R at_) f f else f) A' n' k' (if Lin.pivot (fun t => f t col) R at_ < R then Lin.stepW at_ col (Lin.pivot (fun t => f t col) R at_) f f' else f') := by
  have PS := Lin.pivot_spec (fun t => f t col) (Nat.le_of_lt hat)
  generalize Lin.pivot (fun t => f t col) R at_ = p at *
  obtain ⟨p1, p2, p3, p4⟩ := PS
  replace p3 := Lib.hid p3; replace p4 := Lib.hid p4
  have H := Lib.hid h
  have RA := Lib.hid (fun W f1 f2 i (hW : Pw W base g R C A n k f1 A' n' k' f2) (hi : i < R) => wrow_at hW.a (.inl rfl) i col hR hC hi hcol)
  have SA := Lib.hid (fun W f1 f2 i j (hW : Pw W base g R C A n k f1 A' n' k' f2) (hi : i < R) (hj : j < R) => swap_any hW.a (.inl rfl) i j hR hC hi hj)
  have SB := Lib.hid (fun W f1 f2 i j (hW : Pw W base g R C A n k f1 A' n' k' f2) (hi : i < R) (hj : j < R) => swap_any hW.b (.inr rfl) i j hR hR hi hj)
  have CA := Lib.hid (fun W f1 f2 i c (hW : Pw W base g R C A n k f1 A' n' k' f2) (hi : i < R) => scale_any hW.a (.inl rfl) i c hR hC hi)
  have CB := Lib.hid (fun W f1 f2 i c (hW : Pw W base g R C A n k f1 A' n' k' f2) (hi : i < R) => scale_any hW.b (.inr rfl) i c hR hR hi)
  have DA := Lib.hid (fun W f1 f2 i c j (hW : Pw W base g R C A n k f1 A' n' k' f2) (hi : i < R) (hj : j < R) => wadd_any hW.a (.inl rfl) i c j hR hC hi hj)
  have DB := Lib.hid (fun W f1 f2 i c j (hW : Pw W base g R C A n k f1 A' n' k' f2) (hi : i < R) (hj : j < R) => wadd_any hW.b (.inr rfl) i c j hR hR hi hj)
  have IV := Lib.hid (fun W (a : UInt8) => inv_any a.toNat W a.toNat_lt)
  have CR := Lib.hid (fun W f1 f2 (hW : Pw W base g R C A n k f1 A' n' k' f2) => hW.a.c0)
  have HCol := Lib.hid hcol
  have colb : col < 255 := by omega
  clear h hC
  go_enter Tryd.func79, Tryd.ntmps79
  go_wp2_with fail
  go_loopw [7] (fun v7 wr => ∃ i : Nat, v7 = .int .i64 i ∧ at_ ≤ i ∧ i ≤ p ∧ Hid (Pw wr base g R C A n k f A' n' k' f') ∧ Hid (Below base w wr)) (fun v7 _ => p - (intOf v7).toNat)
  case atStart => exact ⟨at_, rfl, by omega, p1, H, Below.refl _ _⟩
  case round =>
    clear H
    obtain ⟨i, rfl, hi1, hi2, HP, HB⟩ := hrel
    have r0 := CR.out _ _ _ HP.out
    by_cases hip : i < p
    · have hiR : i < R := by omega
      have hiR' : (i : Int) < (R : Int) := by omega
      have hz : (f i col).toNat = 0 := by have h0 : f i col = 0 := p3.out i hi1 hip; rw [h0]; rfl
      have dlt : decide ((i : Int) < (R : Int)) = true := by simpa using hiR'
      have RAi := RA.out wr f f' i HP.out hiR
      rw [hz] at RAi
      replace RAi := Lib.hid RAi
      go_wp2_with fail
      refine RAi.out.mono ?_; rintro e w1 ⟨ad, rfl, ec, hB1⟩
      have HB1 := Lib.hid (HP.out.more HB.out hB1)
      have HP1 := Lib.hid (HP.out.below hB1)
      clear hB1 HP HB r0
      go_wp2_with fail
      go_roundw
      case rel => exact ⟨i + 1, by go_num, by omega, by omega, HP1, HB1⟩
      case measure => simp [intOf]; omega
    · have hip2 : i = p := by omega
      subst hip2
      by_cases hpR : i < R
      · have hiR' : (i : Int) < (R : Int) := by omega
        have hne : ¬ (i : Int) = (R : Int) := by omega
        have dlt : decide ((i : Int) < (R : Int)) = true := by simpa using hiR'
        have hz0 := p4.out hpR
        have hz : ¬ (f i col).toNat = 0 := fun e => hz0 (u8_ext (by rw [e]; rfl))
        have hzI : ¬ ((f i col).toNat : Int) = 0 := by omega
        have RAi := Lib.hid (RA.out wr f f' i HP.out hpR)
        replace hz0 := Lib.hid hz0
        generalize hfv : (f i col).toNat = fv at *
        replace hfv := Lib.hid hfv
        go_wp2_with fail
        refine RAi.out.mono ?_; rintro e w1 ⟨ad, rfl, ec, hB1⟩
        have HB1 := Lib.hid (HP.out.more HB.out hB1)
        have HP1 := Lib.hid (HP.out.below hB1)
        clear hB1 HP HB r0 RAi
        have r1 := CR.out _ _ _ HP1.out
        go_wp2_with fail
        have e0 : Lin.swapF at_ i f at_ col = f i col := if_pos rfl
        have SAi := Lib.hid (fun W hW => SA.out W f f' at_ i hW (by omega) hpR)
        have SBi := Lib.hid (fun W hW => SB.out W (Lin.swapF at_ i f) f' at_ i hW (by omega) hpR)
        have haR : at_ < R := by omega
        go_wp2_with fail
        refine (SAi.out _ HP1.out).mono ?_; rintro e w2 ⟨rfl, hW2, hg2⟩
        have HP2 := Lib.hid (HP1.out.opA hW2 hg2)
        have HB2 := Lib.hid (HP1.out.a.frame HB1.out hg2)
        clear hW2 hg2 HP1 HB1 r1
        go_wp2_with fail
        refine (SBi.out _ HP2.out).mono ?_; rintro e w3 ⟨rfl, hW3, hg3⟩
        have HP3 := Lib.hid (HP2.out.opB hW3 hg3)
        have HB3 := Lib.hid (HP2.out.b.frame HB2.out hg3)
        clear hW3 hg3 HP2 HB2 SAi SBi
        obtain ⟨a0, ha0⟩ : ∃ a0, Hid (Lin.swapF at_ i f at_ col = a0) := ⟨_, rfl⟩
        have RAt := RA.out _ _ _ at_ HP3.out haR
        rw [ha0.out] at RAt
        replace RAt := Lib.hid RAt
        have IVa := IV.out
        have IVa := Lib.hid (fun W => IVa W a0)
        rw [← fi_toNat] at IVa
        have hx8 := a0.toNat_lt
        have CAi := Lib.hid (fun W hW => CA.out W (Lin.swapF at_ i f) (Lin.swapF at_ i f') at_ (fi a0) hW haR)
        have CBi := Lib.hid (fun W hW => CB.out W (Lin.scaleF at_ (fi a0) (Lin.swapF at_ i f)) (Lin.swapF at_ i f') at_ (fi a0) hW haR)
        have hy8 := (fi a0).toNat_lt
        go_wp2_with fail
        refine RAt.out.mono ?_; rintro e w4 ⟨ad2, rfl, ec2, hB4⟩
        have HB4 := Lib.hid (HP3.out.more HB3.out hB4)
        have HP4 := Lib.hid (HP3.out.below hB4)
        clear hB4 HP3 HB3 RAt
        go_wp2_with fail; refine (IVa.out _).mono ?_; rintro e w' ⟨rfl, rfl⟩
        clear IVa ec2
        go_wp2_with fail
        refine (CAi.out _ HP4.out).mono ?_; rintro e w5 ⟨rfl, hW5, hg5⟩
        have HP5 := Lib.hid (HP4.out.opA hW5 hg5)
        have HB5 := Lib.hid (HP4.out.a.frame HB4.out hg5)
        clear hW5 hg5 HP4 HB4
        go_wp2_with fail
        refine (CBi.out _ HP5.out).mono ?_; rintro e w6 ⟨rfl, hW6, hg6⟩
        have HP6 := Lib.hid (HP5.out.opB hW6 hg6)
        have HB6 := Lib.hid (HP5.out.b.frame HB5.out hg6)
        clear hW6 hg6 HP5 HB5 CAi CBi
        have FE := Lib.hid (fun r t hr => clrF_end at_ R col i f f r t hr)
        have FE' := Lib.hid (fun r t hr => clrF_end at_ R col i f f' r t hr)
        rw [ha0.out] at FE FE'
        generalize Lin.scaleF at_ (fi a0) (Lin.swapF at_ i f) = F at *
        generalize Lin.scaleF at_ (fi a0) (Lin.swapF at_ i f') = F' at *
        have r6 := CR.out _ _ _ HP6.out
        clear hx8 hy8 hz hzI
        go_wp2_with fail
        go_loopw [84] (fun v84 wr => ∃ kk : Nat, v84 = .int .i64 kk ∧ kk ≤ R ∧ Hid (Pw wr base g R C A n k (clrF at_ kk (fun r => F r col) F) A' n' k' (clrF at_ kk (fun r => F r col) F')) ∧ Hid (Below base w wr)) (fun v84 _ => R - (intOf v84).toNat)
        case atStart => exact ⟨0, rfl, by omega, HP6.out.eqf (fun r t _ => clrF_zero _ _ _ r t) (fun r t _ => clrF_zero _ _ _ r t), HB6⟩
        case round =>
          clear HP6 HB6 r6
          obtain ⟨kk, rfl, hkR, HP, HB⟩ := hrel
          by_cases hlt : kk < R
          · have hlt' : (kk : Int) < (R : Int) := by omega
            have RAk := RA.out _ _ _ kk HP.out hlt
            rw [clrF_here] at RAk
            obtain ⟨d, hd⟩ : ∃ d, Hid (F kk col = d) := ⟨_, rfl⟩
            rw [hd.out] at RAk
            replace RAk := Lib.hid RAk
            have hd8 := d.toNat_lt
            by_cases hka : kk = at_
            · have hkaI : ((kk : Int) != (at_ : Int)) = false := by rw [hka]; simp
              have hkaI2 : ((kk : Int) == (at_ : Int)) = true := by rw [hka]; simp
              have HS := Lib.hid (HP.out.eqf (fun r t _ => clrF_skip at_ kk (fun r => F r col) F (.inl hka) r t) (fun r t _ => clrF_skip at_ kk (fun r => F r col) F' (.inl hka) r t))
              replace hka := Lib.hid hka
              go_wp2_with fail
              refine RAk.out.mono ?_; rintro e w7 ⟨ad3, rfl, ec3, hB7⟩
              have HB7 := Lib.hid (HS.out.more HB.out hB7)
              have HP7 := Lib.hid (HS.out.below hB7)
              clear hB7 HP HB HS
              go_wp2_with fail
              go_roundw
              case rel => exact ⟨kk + 1, by go_num, by omega, HP7, HB7⟩
              case measure => simp [intOf]; omega
            · have hkaI : ((kk : Int) != (at_ : Int)) = true := by simp; omega
              have hkaI2 : ((kk : Int) == (at_ : Int)) = false := by simp; omega
              by_cases hd0 : d = 0
              · have hdn : d.toNat = 0 := by rw [hd0]; rfl
                have HS := Lib.hid (HP.out.eqf (fun r t _ => clrF_skip at_ kk (fun r => F r col) F (.inr (by show F kk col = 0; rw [hd.out, hd0])) r t) (fun r t _ => clrF_skip at_ kk (fun r => F r col) F' (.inr (by show F kk col = 0; rw [hd.out, hd0])) r t))
                rw [hdn, Int.natCast_zero] at RAk
                replace hdn := Lib.hid hdn
                clear hd8
                replace hd0 := Lib.hid hd0
                go_wp2_with fail
                refine RAk.out.mono ?_; rintro e w7 ⟨ad3, rfl, ec3, hB7⟩
                have HB7 := Lib.hid (HS.out.more HB.out hB7)
                have HP7 := Lib.hid (HS.out.below hB7)
                clear hB7 HP HB HS
                go_wp2_with fail
                go_roundw
                case rel => exact ⟨kk + 1, by go_num, by omega, HP7, HB7⟩
                case measure => simp [intOf]; omega
              · have hdn : ¬ d.toNat = 0 := fun e => hd0 (u8_ext (by rw [e]; rfl))
                have hdI : ¬ (d.toNat : Int) = 0 := by omega
                have DAk := Lib.hid (fun W f1 f2 hW => DA.out W f1 f2 kk d at_ hW hlt haR)
                have DBk := Lib.hid (fun W f1 f2 hW => DB.out W f1 f2 kk d at_ hW hlt haR)
                have SA2 : Hid (∀ r t, addF kk d at_ (clrF at_ kk (fun r => F r col) F) r t = clrF at_ (kk + 1) (fun r => F r col) F r t) := fun r t => by rw [← hd.out]; exact clrF_add at_ kk (fun r => F r col) F hka r t
                have SB2 : Hid (∀ r t, addF kk d at_ (clrF at_ kk (fun r => F r col) F') r t = clrF at_ (kk + 1) (fun r => F r col) F' r t) := fun r t => by rw [← hd.out]; exact clrF_add at_ kk (fun r => F r col) F' hka r t
                obtain ⟨dn, hdn2⟩ : ∃ dn, Hid (d.toNat = dn) := ⟨_, rfl⟩
                rw [hdn2.out] at DAk DBk RAk hd8 hdn hdI
                replace hd0 := Lib.hid hd0
                go_wp2_with fail
                refine RAk.out.mono ?_; rintro e w7 ⟨ad3, rfl, ec3, hB7⟩
                have HB7 := Lib.hid (HP.out.more HB.out hB7)
                have HP7 := Lib.hid (HP.out.below hB7)
                clear hB7 HP HB
                go_wp2_with fail
                refine (DAk.out _ _ _ HP7.out).mono ?_; rintro e w8 ⟨rfl, hW8, hg8⟩
                have HP8 := Lib.hid (HP7.out.opA hW8 hg8)
                have HB8 := Lib.hid (HP7.out.a.frame HB7.out hg8)
                clear hW8 hg8 HP7 HB7 ec3
                go_wp2_with fail
                refine (DBk.out _ _ _ HP8.out).mono ?_; rintro e w9 ⟨rfl, hW9, hg9⟩
                have HP9 := Lib.hid ((HP8.out.opB hW9 hg9).eqf (fun r t _ => SA2.out r t) (fun r t _ => SB2.out r t))
                have HB9 := Lib.hid (HP8.out.b.frame HB8.out hg9)
                clear hW9 hg9 HP8 HB8
                go_wp2_with fail
                go_roundw
                case rel => exact ⟨kk + 1, by go_num, by omega, HP9, HB9⟩
                case measure => simp [intOf]; omega
          · have hge : (R : Int) ≤ kk := by omega
            have hkk : kk = R := by omega
            subst hkk
            go_wp2_with fail
            go_ret
            refine ⟨by first | rfl | rw [decide_eq_true hpR], HB.out, ?_⟩
            first
              | exact HP.out.eqf (fun r t hr => FE.out r t hr) (fun r t hr => FE'.out r t hr)
              | (rw [if_pos hpR, if_pos hpR]; exact HP.out.eqf (fun r t hr => FE.out r t hr) (fun r t hr => FE'.out r t hr))
      · have hiR : i = R := by omega
        have dlt : decide ((i : Int) < (R : Int)) = false := by simp; omega
        have hiR' : (R : Int) ≤ (i : Int) := by omega
        have heq : (i : Int) = (R : Int) := by omega
        go_wp2_with fail
        go_ret
        refine ⟨by first | rfl | rw [decide_eq_false hpR], HB.out, ?_⟩
        first
          | exact HP.out
          | (rw [if_neg hpR, if_neg hpR]; exact HP.out)
end Go.Proofs.YtjbedcgacnnanaaDoor

namespace Go.Proofs.YtjbedcgacnnanaaDoor
set_option linter.unusedSimpArgs false
set_option linter.unusedVariables false
open Go.RowKit

theorem below_of_drew {B : Nat} {a w : World} (h : Below B a.drew w) : Below B a w := ⟨h.os, h.tape, h.output, h.size, h.block⟩
set_option maxRecDepth 100000 in
set_option maxHeartbeats 4000000 in
theorem working_any {R C n k : Nat} {A : Option Addr} {bs : List UInt8} {w : World} (hR : R ≤ 255) (hC : C ≤ 255) (hn : n = R * C) (h : Reads w w.heap.size 1 A n (bs.map B8)) :
    Calls Tryd.prog 78 #[.agg #[.int .i64 R, .int .i64 C, .slice A n k]] w fun e w' => ∃ g A1 k1 A2 n2 k2, e = .returned (.pointer (some ⟨g, 0, none⟩)) ∧ Below w.heap.size w w' ∧
      Pw w' w.heap.size g R C A1 n k1 (cellAt bs C) A2 n2 k2 Lin.one := by
  have hbl : bs.length = R * C := by have := h.len; omega
  have hN : n ≤ 65025 := by rw [hn]; exact rc_le hR hC
  have CL := Lib.hid (fun (W : World) (hB : Below w.heap.size w W) => clone_any A n k w.heap.size bs W (h.below hB) hB.size (by omega))
  have MO := Lib.hid (fun W => made_one R R Lin.one W hR hR (fun i j W' _ _ _ => one_any i j W'))
  have HC : Hid (bs = cellsTo C (cellAt bs C) (R * C)) := cellsTo_of bs R C hbl
  have HN := Lib.hid hn
  unfold SlRet at CL
  unfold mC at MO
  have hne : 5 ≠ 117 := by decide
  have hne2 : 5 ≠ 75 := by decide
  clear h hbl hn
  go_enter Tryd.func78, Tryd.ntmps78
  go_wp2_with fail
  have hb0 : Blk (w.alloc (.cells #[.int .i64 R, .int .i64 C, .slice A n k] 75)) w.heap.size 75 #[.int .i64 R, .int .i64 C, .slice A n k] := Blk.new _ _ _
  have hB0 : Below w.heap.size w (w.alloc (.cells #[.int .i64 R, .int .i64 C, .slice A n k] 75)) := (Below.refl _ _).alloc (Nat.le_refl _) _
  generalize w.alloc (.cells #[.int .i64 R, .int .i64 C, .slice A n k] 75) = w1 at *
  refine (CL.out _ hB0).mono ?_; rintro e w2 ⟨A1, k1, rfl, hf⟩
  have hb2 := hb0.below hf.below hb0.lt
  have hB2 := hB0.trans (hf.below.mono hB0.size)
  have ho2 : w2.ownsRow w.heap.size 5 1 (.slice A1 n k1) n (bs.map B8) := own_base hf.1 hB0.size
  have hfz : w2.frozen? ⟨w.heap.size, 2, none⟩ = false := hb2.frozen 2
  have x2 := hb2.cell 2
  have hb3 := hb2.set_ 2 (.slice A1 n k1)
  have hB3 := hB2.setCell (p := ⟨w.heap.size, 2, none⟩) (Nat.le_refl _) (.slice A1 n k1)
  have ho3 := own_setM ho2 hb2 (j := 2) (.slice A1 n k1)
  have hlt0 := hb0.lt
  clear hf hb0 hB0
  replace hb2 := Lib.hid hb2; replace hB2 := Lib.hid hB2; replace ho2 := Lib.hid ho2
  go_wp2_with fail
  replace hb3 : Blk (w2.setCell ⟨w.heap.size, 2, none⟩ (.slice A1 n k1)) w.heap.size 75 #[.int .i64 R, .int .i64 C, .slice A1 n k1] := by simpa using hb3
  clear hfz x2 hb2 hB2 ho2
  generalize w2.setCell ⟨w.heap.size, 2, none⟩ (.slice A1 n k1) = w3 at *
  have hw3 : w.heap.size < w3.heap.size := hb3.lt
  have SB : Hid (∀ W, Below w3.heap.size w3 W → W.cell? ⟨w.heap.size, 0, none⟩ = some (.int .i64 R) ∧ W.cell? ⟨w.heap.size, 1, none⟩ = some (.int .i64 C) ∧ W.cell? ⟨w.heap.size, 2, none⟩ = some (.slice A1 n k1)) := fun W hW => ⟨(hb3.below hW hb3.lt).cell 0, (hb3.below hW hb3.lt).cell 1, (hb3.below hW hb3.lt).cell 2⟩
  replace hb3 := Lib.hid hb3; replace hB3 := Lib.hid hB3; replace ho3 := Lib.hid ho3
  refine region_E 11 (fun W => W.cell? ⟨w.heap.size, 0, none⟩ = some (.int .i64 R) ∧ W.cell? ⟨w.heap.size, 1, none⟩ = some (.int .i64 C) ∧ W.cell? ⟨w.heap.size, 2, none⟩ = some (.slice A1 n k1)) (by kernel_rfl) (SB.out w3 (Below.refl _ _)) (fun hHeld => ?_)
  refine took 0 (v := ?_) rfl (by kernel_rfl) (by kernel_rfl) (by kernel_rfl) (by kernel_rfl) (fun _ _ _ h => h) (by rfl) (by assumption) ?_ ?_
  rotate_left
  · (intro W hSw; (try dsimp only at hSw); go_simp; first | done | with_reducible rfl)
  try simp only [Act.put, List.setIfInBounds_toArray, List.set_cons_zero, List.set_cons_succ]
  refine took 1 (v := ?_) rfl (by kernel_rfl) (by kernel_rfl) (by kernel_rfl) (by kernel_rfl) (fun _ _ _ h => h) (by rfl) (by assumption) ?_ ?_
  rotate_left
  · (intro W hSw; (try dsimp only at hSw); go_simp; first | done | with_reducible rfl)
  try simp only [Act.put, List.setIfInBounds_toArray, List.set_cons_zero, List.set_cons_succ]
  refine took 2 (v := ?_) rfl (by kernel_rfl) (by kernel_rfl) (by kernel_rfl) (by kernel_rfl) (fun _ _ _ h => h) (by rfl) (by assumption) ?_ ?_
  rotate_left
  · (intro W hSw; (try dsimp only at hSw); go_simp; first | done | with_reducible rfl)
  try simp only [Act.put, List.setIfInBounds_toArray, List.set_cons_zero, List.set_cons_succ]
  refine took 3 (v := ?_) rfl (by kernel_rfl) (by kernel_rfl) (by kernel_rfl) (by kernel_rfl) (fun _ _ _ h => h) (by rfl) (by assumption) ?_ ?_
  rotate_left
  · (intro W hSw; (try dsimp only at hSw); go_simp; first | done | with_reducible rfl)
  try simp only [Act.put, List.setIfInBounds_toArray, List.set_cons_zero, List.set_cons_succ]
  refine took 4 (v := ?_) rfl (by kernel_rfl) (by kernel_rfl) (by kernel_rfl) (by kernel_rfl) (fun _ _ _ h => h) (by rfl) (by assumption) ?_ ?_
  rotate_left
  · (intro W hSw; (try dsimp only at hSw); go_simp; first | done | with_reducible rfl)
  try simp only [Act.put, List.setIfInBounds_toArray, List.set_cons_zero, List.set_cons_succ]
  refine took 5 (v := ?_) rfl (by kernel_rfl) (by kernel_rfl) (by kernel_rfl) (by kernel_rfl) (fun _ _ _ h => h) (by rfl) (by assumption) ?_ ?_
  rotate_left
  · (intro W hSw; (try dsimp only at hSw); go_simp; first | done | with_reducible rfl)
  try simp only [Act.put, List.setIfInBounds_toArray, List.set_cons_zero, List.set_cons_succ]
  refine carried 6 rfl (by kernel_rfl) (by rfl) (fun K hK => ?_)
  go_simp
  (go_at_call 56; ((with_reducible refine (MO.out _).mono ?_); rintro e w5 ⟨A2, k2, rfl, ho5, hB5⟩); have HB5 := Lib.hid (below_of_drew hB5); replace ho5 := Lib.hid ho5; clear hB5)
  refine hK.out _ _ ((SB.out _ HB5.out)) (fun hHeld => ?_)
  clear hK K
  try simp only [Act.put, List.setIfInBounds_toArray, List.set_cons_zero, List.set_cons_succ]
  refine took 7 (v := ?_) rfl (by kernel_rfl) (by kernel_rfl) (by kernel_rfl) (by kernel_rfl) (fun _ _ _ h => h) (by rfl) (by assumption) ?_ ?_
  rotate_left
  · (intro W hSw; (try dsimp only at hSw); go_simp; first | done | with_reducible rfl)
  try simp only [Act.put, List.setIfInBounds_toArray, List.set_cons_zero, List.set_cons_succ]
  refine took 8 (v := ?_) rfl (by kernel_rfl) (by kernel_rfl) (by kernel_rfl) (by kernel_rfl) (fun _ _ _ h => h) (by rfl) (by assumption) ?_ ?_
  rotate_left
  · (intro W hSw; (try dsimp only at hSw); go_simp; first | done | with_reducible rfl)
  try simp only [Act.put, List.setIfInBounds_toArray, List.set_cons_zero, List.set_cons_succ]
  refine carried 9 rfl (by kernel_rfl) (by rfl) (fun K hK => ?_)
  go_simp
  skip
  refine hK.out _ _ ((SB.out _ (HB5.out.alloc HB5.out.size _))) (fun hHeld => ?_)
  clear hK K
  try simp only [Act.put, List.setIfInBounds_toArray, List.set_cons_zero, List.set_cons_succ]
  refine took 10 (v := ?_) rfl (by kernel_rfl) (by kernel_rfl) (by kernel_rfl) (by kernel_rfl) (fun _ _ _ h => h) (by rfl) (by assumption) ?_ ?_
  rotate_left
  · (intro W hSw; (try dsimp only at hSw); go_simp; first | done | with_reducible rfl)
  try simp only [Act.put, List.setIfInBounds_toArray, List.set_cons_zero, List.set_cons_succ]
  refine allDone (by kernel_rfl) ?_ _
  clear hHeld
  have HB5' : Below w3.heap.size w3 w5 := HB5.out
  have hoA : w5.ownsRow w.heap.size 5 1 (.slice A1 n k1) n ((cellsTo C (cellAt bs C) (R * C)).map B8) := by
    rw [← HC.out]
    exact own_belowL ho3.out HB5'
  have hoB : w5.ownsRow w.heap.size 5 1 (.slice A2 (R * R) k2) (R * R) ((cellsTo R Lin.one (R * R)).map B8) := own_base ho5.out hB3.out.size
  have l1 : ∀ a, A1 = some a → a.block < w3.heap.size := fun a ha => (ho3.out.lt a.block (by rw [ownBlock_slice, ha]; rfl)).2
  have l2 : ∀ a, A2 = some a → w3.heap.size ≤ a.block ∧ a.block < w5.heap.size := fun a ha => ho5.out.lt a.block (by rw [ownBlock_slice, ha]; rfl)
  have hs5 : w3.heap.size ≤ w5.heap.size := HB5'.size
  have hw35 : w.heap.size ≤ w5.heap.size := Nat.le_trans hB3.out.size hs5
  have hB6 : Below w.heap.size w (w5.alloc (.cells #[.int .i64 R, .int .i64 C, .slice A1 n k1, .int .i64 R, .int .i64 R, .slice A2 (R * R) k2] 117)) := (hB3.out.trans (HB5'.mono hB3.out.size)).alloc hw35 _
  have hPw : Pw (w5.alloc (.cells #[.int .i64 R, .int .i64 C, .slice A1 n k1, .int .i64 R, .int .i64 R, .slice A2 (R * R) k2] 117)) w.heap.size w5.heap.size R C A1 n k1 (cellAt bs C) A2 (R * R) k2 Lin.one := by
    refine ⟨⟨(Blk.new _ _ _).cell 0, (Blk.new _ _ _).cell 1, (Blk.new _ _ _).cell 2, hoA.alloc _, by simp, ?_, by simp; omega⟩, ⟨(Blk.new _ _ _).cell 3, (Blk.new _ _ _).cell 4, (Blk.new _ _ _).cell 5, hoB.alloc _, by simp, ?_, by simp; omega⟩, ?_⟩
    · cases A1 with
      | none => simp
      | some a => have := l1 a rfl; simp; omega
    · cases A2 with
      | none => simp
      | some a => have := l2 a rfl; simp; omega
    · intro x y hx hy
      have h1 := l1 x hx
      have h2 := l2 y hy
      omega
  replace hPw := Lib.hid hPw; replace hB6 := Lib.hid hB6
  clear hoA hoB l1 l2
  go_wp2_with fail
  go_ret
  exact ⟨_, A1, k1, A2, R * R, k2, rfl, hB6.out, hPw.out⟩
end Go.Proofs.YtjbedcgacnnanaaDoor

namespace Go.Proofs.YtjbedcgacnnanaaDoor
set_option linter.unusedSimpArgs false
set_option linter.unusedVariables false
open Go.RowKit

theorem blk2m (w : World) (t1 t2 : TypeId) (c1 c2 : Array Value) :
    Blk ((w.alloc (.cells c1 t1)).alloc (.cells c2 t2)) w.heap.size t1 c1 ∧ Blk ((w.alloc (.cells c1 t1)).alloc (.cells c2 t2)) (w.heap.size + 1) t2 c2 ∧ Below w.heap.size w ((w.alloc (.cells c1 t1)).alloc (.cells c2 t2)) := by
  refine ⟨(Blk.new w t1 c1).alloc _, ?_, ((Below.refl _ _).alloc (Nat.le_refl _) _).alloc (by simp) _⟩
  have h := Blk.new (w.alloc (.cells c1 t1)) t2 c2
  simpa using h

/-- what Inverse hands back of a square matrix -/
def InvRet (w : World) (R : Nat) (X : Option (Nat → Nat → UInt8)) (e : Ending) (w' : World) : Prop :=
  match X with
  | some x => MRet w R R (cellsTo R x (R * R)) 0 e w'
  | none => MRet w 0 0 [] 14 e w'

theorem gauss_step {n i : Nat} {W B : Nat → Nat → UInt8} (hi : i < n) : Lin.gaussGo n (n - i) i W B = if Lin.pivot (fun t => W t i) n i < n then Lin.gaussGo n (n - (i + 1)) (i + 1) (Lin.stepW i i (Lin.pivot (fun t => W t i) n i) W W) (Lin.stepW i i (Lin.pivot (fun t => W t i) n i) W B) else none := by
  have e : n - i = (n - (i + 1)) + 1 := by omega
  rw [e]
  rfl
theorem gauss_end {n : Nat} {W B : Nat → Nat → UInt8} : Lin.gaussGo n (n - n) n W B = some B := by
  rw [Nat.sub_self]; rfl

set_option maxRecDepth 100000 in
set_option maxHeartbeats 4000000 in
theorem inverse_in (R : Nat) (A : Option Addr) (n k : Nat) (bs : List UInt8) (w : World) (hR : R ≤ 255) (hn : n = R * R) (h : Reads w w.heap.size 1 A n (bs.map B8)) :
    Calls Tryd.prog 67 #[.agg #[.int .i64 R, .int .i64 R, .slice A n k]] w (InvRet w R (Lin.inverse R (cellAt bs R))) := by
  have M1 := fun W => Lib.hid (may_any R R A n k W)
  unfold mC at M1
  have hm1 : Matp.may (R : Int) (R : Int) n = true := by
    unfold Matp.may; rw [hn, Int.natCast_mul]; simp; omega
  rw [hm1] at M1
  have hz := (zero_of_info info_m).1
  have WO := Lib.hid (fun (W : World) (hB : Below w.heap.size w W) => working_any (R := R) (C := R) (n := n) (k := k) (A := A) (bs := bs) (w := W) hR hR hn ((h.below hB).more hB.size))
  have CLR := Lib.hid (fun (W : World) base g A1 n1 k1 F1 A2 n2 k2 F2 (hP : Pw W base g R R A1 n1 k1 F1 A2 n2 k2 F2) (i : Nat) (hi : i < R) => clear_any hP i i hR hR hi hi)
  obtain ⟨G, hG⟩ : ∃ G, Hid (Lin.inverse R (cellAt bs R) = G) := ⟨_, rfl⟩
  rw [hG.out]
  have HG0 : Hid (Lin.gaussGo R (R - 0) 0 (cellAt bs R) Lin.one = G) := hG
  have hms := info_ms
  clear hm1 hn h
  go_enter Tryd.func67, Tryd.ntmps67
  go_wp2_with fail
  obtain ⟨hb2, hb3, hB0⟩ := blk2m w 75 75 #[.int .i64 R, .int .i64 R, .slice A n k] #[.int .i64 0, .int .i64 0, .slice none 0 0]
  generalize (w.alloc (.cells #[.int .i64 R, .int .i64 R, .slice A n k] 75)).alloc (.cells #[.int .i64 0, .int .i64 0, .slice none 0 0] 75) = W0 at *
  have hg3 : w.heap.size < w.heap.size + 1 := by omega
  have hg3b : w.heap.size + 1 < W0.heap.size := hb3.lt
  have KB : Hid (∀ W, Below W0.heap.size W0 W → Below w.heap.size w W ∧ Blk W (w.heap.size + 1) 75 (mC 0 0 (.slice none 0 0))) := fun W hW => ⟨hB0.trans (hW.mono hB0.size), hb3.below hW hb3.lt⟩
  have C2 : Hid (∀ W, Below W0.heap.size W0 W → W.cell? ⟨w.heap.size, 0, none⟩ = some (.int .i64 R) ∧ W.cell? ⟨w.heap.size, 1, none⟩ = some (.int .i64 R) ∧ W.cell? ⟨w.heap.size, 2, none⟩ = some (.slice A n k)) := fun W hW => ⟨(hb2.below hW hb2.lt).cell 0, (hb2.below hW hb2.lt).cell 1, (hb2.below hW hb2.lt).cell 2⟩
  clear hb2 hb3 hB0
  generalize w.heap.size + 1 = g3 at *
  refine (M1 _).out.mono ?_; rintro e w1 ⟨rfl, hB1⟩
  obtain ⟨x0, x1, x2⟩ := C2.out w1 hB1
  replace hB1 := Lib.hid hB1
  go_wp2_with fail
  refine (WO.out _ (KB.out _ hB1.out).1).mono ?_; rintro e w2 ⟨g, A1, k1, A2, n2, k2, rfl, hB2, hP2⟩
  have HB2 := Lib.hid (below_then hB1.out hB2)
  have hw1 : Hid (W0.heap.size ≤ w1.heap.size) := hB1.out.size
  replace hB2 := Lib.hid hB2; replace hP2 := Lib.hid hP2
  clear x0 x1 x2
  obtain ⟨x0, x1, x2⟩ := C2.out w2 HB2.out
  go_wp2_with fail
  clear x0 x1 x2
  go_loopw [21] (fun v21 wr => ∃ (i : Nat) (W B : Nat → Nat → UInt8), v21 = .int .i64 i ∧ i ≤ R ∧ Hid (Pw wr w1.heap.size g R R A1 n k1 W A2 n2 k2 B) ∧ Hid (Below w1.heap.size w1 wr) ∧ Hid (Lin.gaussGo R (R - i) i W B = G)) (fun v21 _ => R - (intOf v21).toNat)
  case atStart => exact ⟨0, cellAt bs R, Lin.one, rfl, by omega, hP2, hB2, HG0⟩
  case round =>
    clear hP2 hB2 HB2
    obtain ⟨i, W, B, rfl, hiR, HP, HB, HG⟩ := hrel
    have HBW := Lib.hid (below_then hB1.out (HB.out.mono (Nat.le_refl _)))
    by_cases hlt : i < R
    · have hlt' : (i : Int) < (R : Int) := by omega
      have CLi := CLR.out _ _ _ _ _ _ _ _ _ _ _ HP.out i hlt
      have HST := gauss_step (W := W) (B := B) hlt
      by_cases hp : Lin.pivot (fun t => W t i) R i < R
      · simp only [hp, if_true, decide_true] at CLi HST
        replace CLi := Lib.hid CLi
        have HG2 : Hid (Lin.gaussGo R (R - (i + 1)) (i + 1) (Lin.stepW i i (Lin.pivot (fun t => W t i) R i) W W) (Lin.stepW i i (Lin.pivot (fun t => W t i) R i) W B) = G) := by
          unfold Hid
          rw [← HST]; exact HG.out
        clear hp HST
        go_wp2_with fail
        refine CLi.out.mono ?_; rintro e w3 ⟨rfl, hB3, hP3⟩
        have HB3 := Lib.hid (HB.out.trans hB3)
        replace hP3 := Lib.hid hP3
        clear hB3 HB HP HBW CLi
        go_wp2_with fail
        go_roundw
        case rel => exact ⟨i + 1, _, _, by go_num, by omega, hP3, HB3, HG2⟩
        case measure => simp [intOf]; omega
      · simp only [hp, if_false, decide_false] at CLi HST
        replace CLi := Lib.hid CLi
        have hGn : G = none := by rw [← HG.out, HST]
        subst hGn
        clear hp HST
        go_wp2_with fail
        refine CLi.out.mono ?_; rintro e w3 ⟨rfl, hB3, hP3⟩
        have HB3 := Lib.hid (below_then hB1.out ((HB.out.trans hB3).mono (Nat.le_refl _)))
        have Hb4 := Lib.hid (KB.out _ HB3.out).2
        have HBw := Lib.hid (KB.out _ HB3.out).1
        clear hB3 hP3 HB HP HBW CLi
        go_wp2_with (refine wpList_store_row rfl 75 _ _ rfl g3 (mC 0 0 (.slice none 0 0)) rfl rfl 75 (mC 0 0 (.slice none 0 0)) Hb4.out info_ms rfl (mC_one _ _ _ _ _) ?_)
        exact bodyPost_ret (results_cell_int rfl _ _ g3 (mC 0 0 (.slice none 0 0)) (.int .i64 14) rfl rfl (run_loadVar_row _ g3 75 _ (mC 0 0 (.slice none 0 0)) (0, 0) _ (Hb4.out.row _) Tryd.underlying75 rfl info_ms)) rfl ⟨none, 0, rfl, World.ownsRow_nil _ _ _ 1, below_row HBw.out (Nat.le_of_lt hg3) _⟩
    · have hge : (R : Int) ≤ (i : Int) := by omega
      have hi2 : i = R := by omega
      have hGs : Hid (G = some B) := by
        unfold Hid
        rw [← HG.out, hi2]; exact gauss_end
      have hn2 : Hid (n2 = R * R) := HP.out.b.len.1
      have z0 := HP.out.b.c0
      have z1 := HP.out.b.c1
      have z2 := HP.out.b.c2
      have HO := Lib.hid HP.out.b.own
      have Hb4 := Lib.hid (KB.out _ HBW.out).2
      have HBw := Lib.hid (KB.out _ HBW.out).1
      simp only [Nat.reduceAdd] at z1 z2
      have hcl := cellsTo_len R B (R * R)
      replace hi2 := Lib.hid hi2
      go_wp2_with (refine wpList_store_row rfl 75 _ _ rfl g3 (mC R R (.slice A2 n2 k2)) rfl rfl 75 (mC 0 0 (.slice none 0 0)) Hb4.out info_ms rfl (mC_one _ _ _ _ _) ?_)
      refine bodyPost_ret (results_cell_int rfl _ _ g3 (mC R R (.slice A2 n2 k2)) (.int .i64 0) rfl rfl (run_loadVar_row _ g3 75 _ (mC R R (.slice A2 n2 k2)) (0, 0) _ (Hb4.out.row _) Tryd.underlying75 rfl info_ms)) rfl ?_
      rw [hGs.out]
      refine ⟨A2, k2, by rw [hcl, hn2.out], ?_, below_row HBw.out (Nat.le_of_lt hg3) _⟩
      rw [hcl, ← hn2.out]
      have := own_setRowM (own_base HO.out (Nat.le_trans (Nat.le_of_lt (Nat.lt_trans hg3 hg3b)) hw1.out)) Hb4.out (mC R R (.slice A2 n2 k2))
      rw [← hn2.out] at this
      exact this

set_option maxRecDepth 100000 in
set_option maxHeartbeats 1000000 in
theorem inverse_bad (r c : Int) (A : Option Addr) (n k : Nat) (w : World) (h : ¬ (Matp.may r c n = true ∧ r = c)) :
    Calls Tryd.prog 67 #[.agg #[.int .i64 r, .int .i64 c, .slice A n k]] w (MRet w 0 0 [] 13) := by
  have M1 := fun W => Lib.hid (may_any r c A n k W)
  unfold mC at M1
  have hz := (zero_of_info info_m).1
  have hcases : Matp.may r c n = false ∨ (Matp.may r c n = true ∧ (r == c) = false) := by
    cases h1 : Matp.may r c n
    · exact .inl rfl
    · refine .inr ⟨rfl, ?_⟩
      rw [beq_eq_false_iff_ne]
      exact fun h3 => h ⟨h1, h3⟩
  clear h
  rcases hcases with h1 | ⟨h1, h3⟩
  all_goals
    rw [h1] at M1
    clear h1
    go_enter Tryd.func67, Tryd.ntmps67
    go_wp2_with fail
    obtain ⟨hb2, hb3, hB0⟩ := blk2m w 75 75 #[.int .i64 r, .int .i64 c, .slice A n k] #[.int .i64 0, .int .i64 0, .slice none 0 0]
    generalize (w.alloc (.cells #[.int .i64 r, .int .i64 c, .slice A n k] 75)).alloc (.cells #[.int .i64 0, .int .i64 0, .slice none 0 0] 75) = W0 at *
    have hg3 : w.heap.size < w.heap.size + 1 := by omega
    have KB : Hid (∀ W, Below W0.heap.size W0 W → Below w.heap.size w W ∧ Blk W (w.heap.size + 1) 75 (mC 0 0 (.slice none 0 0))) := fun W hW => ⟨hB0.trans (hW.mono hB0.size), hb3.below hW hb3.lt⟩
    have C2 : Hid (∀ W, Below W0.heap.size W0 W → W.cell? ⟨w.heap.size, 0, none⟩ = some (.int .i64 r) ∧ W.cell? ⟨w.heap.size, 1, none⟩ = some (.int .i64 c) ∧ W.cell? ⟨w.heap.size, 2, none⟩ = some (.slice A n k)) := fun W hW => ⟨(hb2.below hW hb2.lt).cell 0, (hb2.below hW hb2.lt).cell 1, (hb2.below hW hb2.lt).cell 2⟩
    clear hb2 hb3 hB0
    generalize w.heap.size + 1 = g3 at *
    refine (M1 _).out.mono ?_; rintro e w1 ⟨rfl, hB1⟩
    obtain ⟨x0, x1, x2⟩ := C2.out w1 hB1
    have Hb4 := Lib.hid (KB.out _ hB1).2
    have HBw := Lib.hid (KB.out _ hB1).1
    clear hB1
    go_wp2_with (refine wpList_store_row rfl 75 _ _ rfl g3 (mC 0 0 (.slice none 0 0)) rfl rfl 75 (mC 0 0 (.slice none 0 0)) Hb4.out info_ms rfl (mC_one _ _ _ _ _) ?_)
    exact bodyPost_ret (results_cell_int rfl _ _ g3 (mC 0 0 (.slice none 0 0)) (.int .i64 13) rfl rfl (run_loadVar_row _ g3 75 _ (mC 0 0 (.slice none 0 0)) (0, 0) _ (Hb4.out.row _) Tryd.underlying75 rfl info_ms)) rfl ⟨none, 0, rfl, World.ownsRow_nil _ _ _ 1, below_row HBw.out (Nat.le_of_lt hg3) _⟩
end Go.Proofs.YtjbedcgacnnanaaDoor

namespace Go.Proofs.YtjbedcgacnnanaaDoor
set_option linter.unusedSimpArgs false
set_option linter.unusedVariables false
open Go.RowKit

/-- what an inverse gives -/
def invV (r c : Int) (bs : List UInt8) : Nat × Nat × List UInt8 × Int :=
  if Matp.may r c bs.length = true ∧ r = c then
    match Lin.inverse r.toNat (cellAt bs r.toNat) with
    | some x => (r.toNat, r.toNat, cellsTo r.toNat x (r.toNat * r.toNat), 0)
    | none => (0, 0, [], 14)
  else (0, 0, [], 13)
theorem inverse_all (r c : Int) (A : Option Addr) (n k : Nat) (bs : List UInt8) (w : World) (h : Reads w w.heap.size 1 A n (bs.map B8)) :
    Calls Tryd.prog 67 #[.agg #[.int .i64 r, .int .i64 c, .slice A n k]] w (MRet w (invV r c bs).1 (invV r c bs).2.1 (invV r c bs).2.2.1 (invV r c bs).2.2.2) := by
  have hl := h.len
  unfold invV
  rw [hl]
  by_cases hok : Matp.may r c n = true ∧ r = c
  · rw [if_pos hok]
    obtain ⟨R, C, rfl, rfl, hR, hC, hn⟩ := may_nat hok.1
    obtain rfl : R = C := by have := hok.2; omega
    simp only [Int.toNat_natCast]
    have := inverse_in R A n k bs w hR hn h
    unfold InvRet at this
    cases hi : Lin.inverse R (cellAt bs R) with
    | none => rw [hi] at this; exact this
    | some x => rw [hi] at this; exact this
  · rw [if_neg hok]
    exact inverse_bad r c A n k w hok
/-- the cases of an inverse -/
theorem invV_cases (r c : Int) (bs : List UInt8) :
    ((invV r c bs = (0, 0, [], 13) ∧ ¬ (Matp.may r c bs.length = true ∧ r = c)) ∨ (invV r c bs = (0, 0, [], 14) ∧ ∃ R : Nat, r = (R : Int) ∧ c = (R : Int) ∧ R ≤ 255 ∧ bs.length = R * R ∧ Lin.inverse R (cellAt bs R) = none)) ∨
    ∃ (R : Nat) (X : Nat → Nat → UInt8), r = (R : Int) ∧ c = (R : Int) ∧ R ≤ 255 ∧ bs.length = R * R ∧ invV r c bs = (R, R, cellsTo R X (R * R), 0) ∧ Lin.inverse R (cellAt bs R) = some X := by
  unfold invV
  by_cases hok : Matp.may r c bs.length = true ∧ r = c
  · rw [if_pos hok]
    obtain ⟨R, C, rfl, rfl, hR, hC, hn⟩ := may_nat hok.1
    obtain rfl : R = C := by have := hok.2; omega
    simp only [Int.toNat_natCast]
    cases hi : Lin.inverse R (cellAt bs R) with
    | none => exact .inl (.inr ⟨rfl, R, rfl, rfl, hR, hn, hi⟩)
    | some x => exact .inr ⟨R, x, rfl, rfl, hR, hn, rfl, hi⟩
  · rw [if_neg hok]
    exact .inl (.inl ⟨rfl, hok⟩)
/-- products: the cells of a square one -/
theorem mulC_sq (xa xb : List UInt8) (R : Nat) {i j : Nat} (hi : i < R) (hj : j < R) : cellAt (mulC xa xb R R R) R i j = Lin.mm R (cellAt xa R) (cellAt xb R) i j := mulC_at xa xb R R R i j hi hj
theorem cells_eq {R : Nat} {X : Nat → Nat → UInt8} {i j : Nat} (hi : i < R) (hj : j < R) : cellAt (cellsTo R X (R * R)) R i j = X i j := cellAt_cellsTo R R i j X hi hj
/-- the inverse of a product -/
theorem inv_mul {R : Nat} {xa xb : List UInt8} {X Y : Nat → Nat → UInt8} (hx : Lin.inverse R (cellAt xa R) = some X) (hy : Lin.inverse R (cellAt xb R) = some Y) :
    ∃ Z, Lin.inverse R (cellAt (mulC xa xb R R R) R) = some Z ∧ cellsTo R Z (R * R) = mulC (cellsTo R Y (R * R)) (cellsTo R X (R * R)) R R R := by
  obtain ⟨x1, x2⟩ := Lin.inverse_some hx
  obtain ⟨y1, y2⟩ := Lin.inverse_some hy
  have hleft : ∀ i j, i < R → j < R → Lin.mm R (Lin.mm R Y X) (cellAt (mulC xa xb R R R) R) i j = Lin.one i j := fun i j hi hj => by
    rw [Lin.mm_congr (fun _ _ => rfl) (fun t ht => mulC_sq xa xb R ht hj), Lin.mm_assoc]
    have e : ∀ t, t < R → Lin.mm R X (Lin.mm R (cellAt xa R) (cellAt xb R)) t j = cellAt xb R t j := fun t ht => by
      rw [← Lin.mm_assoc, Lin.mm_congr (fun s hs => x1 t s ht hs) (fun _ _ => rfl), Lin.mm_one_left _ _ ht]
    rw [Lin.mm_congr (fun _ _ => rfl) e]
    exact y1 i j hi hj
  obtain ⟨Z, hZ⟩ := Lin.inverse_of_left hleft
  refine ⟨Z, hZ, ?_⟩
  rw [mulC_eq]
  apply cellsTo_congr
  intro i j hi hj
  have hu := Lin.inverse_unique hleft (Lin.inverse_some hZ).2 i j hi hj
  rw [← hu]
  exact (Lin.mm_congr (fun t ht => cells_eq hi ht) (fun t ht => cells_eq ht hj)).symm
/-- either product with the inverse is the identity -/
theorem inv_right {R : Nat} {xa : List UInt8} {X : Nat → Nat → UInt8} (hx : Lin.inverse R (cellAt xa R) = some X) : mulC xa (cellsTo R X (R * R)) R R R = cellsTo R oneC (R * R) := by
  rw [mulC_eq]
  apply cellsTo_congr
  intro i j hi hj
  rw [Lin.mm_congr (fun _ _ => rfl) (fun t ht => cells_eq ht hj)]
  exact (Lin.inverse_some hx).2 i j hi hj
theorem inv_left {R : Nat} {xa : List UInt8} {X : Nat → Nat → UInt8} (hx : Lin.inverse R (cellAt xa R) = some X) : mulC (cellsTo R X (R * R)) xa R R R = cellsTo R oneC (R * R) := by
  rw [mulC_eq]
  apply cellsTo_congr
  intro i j hi hj
  rw [Lin.mm_congr (fun t ht => cells_eq hi ht) (fun _ _ => rfl)]
  exact (Lin.inverse_some hx).1 i j hi hj
/-- a row that isn't all nothing, and nothing times the matrix: no inverse -/
theorem inv_flat {R : Nat} {xb bs : List UInt8} (hb : xb.length = R) (hz : ∀ j, j < R → (mulC xb bs 1 R R).getD j 0 = 0) (hn : ∃ j, j < R ∧ xb.getD j 0 ≠ 0) : Lin.inverse R (cellAt bs R) = none := by
  cases hi : Lin.inverse R (cellAt bs R) with
  | none => rfl
  | some X =>
    exfalso
    obtain ⟨j, hj, hne⟩ := hn
    have := Lin.flat_zero hi (fun t => cellAt xb R 0 t) (fun j hj => by
      have h1 := mulC_at xb bs 1 R R 0 j (by omega) hj
      have h2 := hz j hj
      unfold cellAt at h1
      rw [Nat.zero_mul, Nat.zero_add] at h1
      rw [h2] at h1
      exact h1.symm) j hj
    unfold cellAt at this
    rw [Nat.zero_mul, Nat.zero_add] at this
    exact hne this
end Go.Proofs.YtjbedcgacnnanaaDoor

namespace Go.Proofs.YtjbedcgacnnanaaDoor
set_option linter.unusedSimpArgs false
set_option linter.unusedVariables false
open Go.RowKit

theorem cellsTo_row (C : Nat) (f : Nat → Nat → UInt8) (i : Nat) : ∀ j, j ≤ C → cellsTo C f (i * C + j) = cellsTo C f (i * C) ++ (List.range j).map (f i)
  | 0, _ => by simp
  | j + 1, hj => by
    rw [← Nat.add_assoc, cellsTo_step C f i j (by omega), cellsTo_row C f i j (by omega), List.range_succ, List.map_append, List.append_assoc]; rfl
theorem cellsTo_succ (C : Nat) (f : Nat → Nat → UInt8) (i : Nat) : cellsTo C f ((i + 1) * C) = cellsTo C f (i * C) ++ rowF C (f i) := by
  rw [Nat.succ_mul, cellsTo_row C f i C (Nat.le_refl _)]; rfl
/-- one below the other -/
theorem cellsTo_below (C R1 : Nat) (f g : Nat → Nat → UInt8) : ∀ R2, cellsTo C f (R1 * C) ++ cellsTo C g (R2 * C) = cellsTo C (fun i j => if i < R1 then f i j else g (i - R1) j) ((R1 + R2) * C)
  | 0 => by
    rw [Nat.add_zero, Nat.zero_mul, show cellsTo C g 0 = [] from rfl, List.append_nil]
    apply cellsTo_congr
    intro i j hi _
    rw [if_pos hi]
  | R2 + 1 => by
    rw [cellsTo_succ, ← List.append_assoc, cellsTo_below C R1 f g R2, ← Nat.add_assoc, cellsTo_succ]
    congr 1
    apply List.map_congr_left
    intro j _
    rw [if_neg (by omega), Nat.add_sub_cancel_left]
theorem whole_eq (n p : Nat) : cellsTo n oneC (n * n) ++ cellsTo n (cauC n) (p * n) = cellsTo n (Lin.wholeC n) ((n + p) * n) := by
  rw [cellsTo_below]
  apply cellsTo_congr
  intro i j _ _
  unfold Lin.wholeC cauC
  by_cases h : i < n
  · rw [if_pos h, if_pos h]; rfl
  · rw [if_neg h, if_neg h, show n + (i - n) = i by omega]
theorem stackGo_two (n p : Nat) (hn : n + p ≤ 255) : stackGo (stackC [((n : Int), (n : Int), cellsTo n oneC (n * n)), ((p : Int), (n : Int), cellsTo n (cauC n) (p * n))]) [((n : Int), (n : Int), cellsTo n oneC (n * n)), ((p : Int), (n : Int), cellsTo n (cauC n) (p * n))] 0 [] = some (n + p, cellsTo n (Lin.wholeC n) ((n + p) * n)) := by
  rw [← whole_eq]
  have h1 : Matp.may (n : Int) (n : Int) (n * n) = true := by unfold Matp.may; rw [Int.natCast_mul]; simp; omega
  have h2 : Matp.may (p : Int) (n : Int) (p * n) = true := by unfold Matp.may; rw [Int.natCast_mul]; simp; omega
  simp only [stackGo, stackC, cellsTo_len, h1, h2, true_and, Int.toNat_natCast, List.nil_append, Nat.zero_add]
  rw [if_pos (by omega), if_pos (by omega)]
theorem pickGo_nat (bs : List UInt8) (R C : Nat) (f : Nat → Nat → UInt8) (hbs : bs = cellsTo C f (R * C)) : ∀ (P : List Nat) (out : List UInt8), (∀ x ∈ P, x < R) → pickGo bs R C (P.map fun (x : Nat) => (x : Int)) out = some (out ++ (P.map fun x => rowF C (f x)).flatten)
  | [], out, _ => by simp [pickGo]
  | x :: P, out, h => by
    have hx := h x (List.mem_cons_self ..)
    rw [List.map_cons, pickGo, if_pos ⟨by omega, by omega⟩, Int.toNat_natCast, pickGo_nat bs R C f hbs P _ (fun y hy => h y (List.mem_cons_of_mem _ hy)), hbs, rowC_cellsTo R C x f hx]
    simp
theorem flat_rows (C : Nat) (f : Nat → Nat → UInt8) (P : List Nat) : ∀ k, k ≤ P.length → ((P.take k).map fun x => rowF C (f x)).flatten = cellsTo C (fun i j => f (P.getD i 0) j) (k * C)
  | 0, _ => by simp [cellsTo]
  | k + 1, hk => by
    rw [List.take_succ_eq_append_getElem (by omega), List.map_append, List.flatten_append, flat_rows C f P k (by omega), cellsTo_succ]
    congr 1
    simp only [List.map_cons, List.map_nil, List.flatten_cons, List.flatten_nil, List.append_nil]
    rw [List.getD_eq_getElem?_getD, List.getElem?_eq_getElem (by omega)]; rfl
theorem flat_all (C : Nat) (f : Nat → Nat → UInt8) (P : List Nat) : (P.map fun x => rowF C (f x)).flatten = cellsTo C (fun i j => f (P.getD i 0) j) (P.length * C) := by
  have := flat_rows C f P P.length (Nat.le_refl _)
  rwa [List.take_length] at this
/-- what is picked has an inverse -/
theorem sub_inverse (n p : Nat) (P : List Nat) (hn : n + p ≤ 256) (hl : P.length = n) (hnd : P.Nodup) (hP : ∀ x ∈ P, x < n + p) : ∃ X, Lin.inverse n (cellAt (cellsTo n (fun i j => Lin.wholeC n (P.getD i 0) j) (n * n)) n) = some X := by
  obtain ⟨X, hX⟩ := Lin.picked_inverse n p P hn hl hnd hP
  apply Lin.inverse_of_left (N := X)
  intro i j hi hj
  rw [Lin.mm_congr (fun _ _ => rfl) (fun t ht => cells_eq ht hj)]
  exact (Lin.inverse_some hX).1 i j hi hj

/-- Stack of the identity and Cauchy's matrix, in a box of the call's own -/
theorem stack2 {W : World} {Ai Ac : Option Addr} {ki kc n p : Nat} (hn : n + p ≤ 255) (hi : Reads W W.heap.size 1 Ai (n * n) ((cellsTo n oneC (n * n)).map B8)) (hc : Reads W W.heap.size 1 Ac (p * n) ((cellsTo n (cauC n) (p * n)).map B8)) (hki : n * n ≤ ki) (hkc : p * n ≤ kc) :
    Calls Tryd.prog 77 #[.slice (some ⟨W.heap.size, 0, none⟩) 2 2] (W.alloc (.cells #[.int .i64 n, .int .i64 n, .slice Ai (n * n) ki, .int .i64 p, .int .i64 n, .slice Ac (p * n) kc] 75)) (MRet W (n + p) n (cellsTo n (Lin.wholeC n) ((n + p) * n)) 0) := by
  have hb := Blk.new W 75 #[.int .i64 n, .int .i64 n, .slice Ai (n * n) ki, .int .i64 p, .int .i64 n, .slice Ac (p * n) kc]
  have hB : Below W.heap.size W (W.alloc (.cells #[.int .i64 n, .int .i64 n, .slice Ai (n * n) ki, .int .i64 p, .int .i64 n, .slice Ac (p * n) kc] 75)) := (Below.refl _ _).alloc (Nat.le_refl _) _
  have hi2 := (hi.below hB).more hB.size
  have hc2 := (hc.below hB).more hB.size
  have hlt := hb.lt
  have ead : ∀ k, (⟨W.heap.size, 0, none⟩ : Addr).add k = ⟨W.heap.size, k, none⟩ := fun k => by unfold Addr.add; split <;> simp_all
  refine stack_any _ 2 2 [((n : Int), (n : Int), cellsTo n oneC (n * n)), ((p : Int), (n : Int), cellsTo n (cauC n) (p * n))] _ (by omega) ⟨rfl, fun _ => ⟨_, rfl, hlt, fun i hi => ?_⟩⟩ _ ?_ ?_
  · match i, hi with
    | 0, _ => exact ⟨Ai, n * n, ki, by rw [ead]; exact hb.cell 0, by rw [ead]; exact hb.cell 1, by rw [ead]; exact hb.cell 2, hki, hi2⟩
    | 1, _ => exact ⟨Ac, p * n, kc, by rw [ead]; exact hb.cell 3, by rw [ead]; exact hb.cell 4, by rw [ead]; exact hb.cell 5, hkc, hc2⟩
  · intro R out ho C hC e w' hm
    rw [stackGo_two n p hn] at ho
    injection ho with ho
    injection ho with h1 h2
    subst h1 h2
    have hC' : C = n := by
      have : stackC [((n : Int), (n : Int), cellsTo n oneC (n * n)), ((p : Int), (n : Int), cellsTo n (cauC n) (p * n))] = (n : Int) := rfl
      rw [this] at hC; omega
    subst hC'
    obtain ⟨A, k, he, ho, hb⟩ := hm
    exact ⟨A, k, he, own_base ho hB.size, below_then hB hb⟩
  · intro ho
    rw [stackGo_two n p hn] at ho
    cases ho
end Go.Proofs.YtjbedcgacnnanaaDoor
