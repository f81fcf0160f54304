/-
  add walked: one more place in the chains.
-/
import Derived.Test.YtiakpffmjkkniaaLzl
namespace Go.Proofs.Ytiakpffmjkkniaa
set_option linter.unusedSimpArgs false
set_option linter.unusedVariables false
open Go.RowKit Go.Maps

/-- blocks of cells that are neither the chains' own nor rows of ints stand as they stood -/
def KeepT (w w' : World) : Prop := ∀ (k : Nat) (t : TypeId) (cs : Array Value) (fr : Nat × Nat), w.heap[k]? = some (.cells cs t fr) → t ≠ 46 → t ≠ 3 → w'.heap[k]? = some (.cells cs t fr)
theorem KeepT.refl (w : World) : KeepT w w := fun _ _ _ _ h _ _ => h
theorem KeepT.trans {a b c : World} (h : KeepT a b) (h' : KeepT b c) : KeepT a c := fun k t cs fr hk h1 h2 => h' k t cs fr (h k t cs fr hk h1 h2) h1 h2
theorem lt_of_heap {w : World} {k : Nat} {o : Obj} (h : w.heap[k]? = some o) : k < w.heap.size := by
  rcases Nat.lt_or_ge k w.heap.size with hlt | hge
  · exact hlt
  · rw [Array.getElem?_eq_none hge] at h; cases h
theorem KeepT.alloc (w : World) (o : Obj) : KeepT w (w.alloc o) := fun k _ _ _ hk _ _ => (heap_alloc_old w o (lt_of_heap hk)).trans hk
theorem KeepT.below {w w' : World} (h : Below w.heap.size w w') : KeepT w w' := fun k _ _ _ hk _ _ => (h.block k (lt_of_heap hk)).trans hk
theorem KeepT.setCell {w : World} {g : Nat} {cs : Array Value} {t : TypeId} {fr : Nat × Nat} (hg : w.heap[g]? = some (.cells cs t fr)) (ht : t = 46 ∨ t = 3) (j : Nat) (u : Value) : KeepT w (w.setCell ⟨g, j, none⟩ u) := fun k t' cs' fr' hk h1 h2 => by
  have hne : k ≠ g := by
    rintro rfl
    rw [hg] at hk
    injection hk with hk
    injection hk with _ hk
    subst hk
    rcases ht with ht | ht
    · exact h1 ht
    · exact h2 ht
  exact (Below.heap_setCell w ⟨g, j, none⟩ u k hne).trans hk
theorem KeepT.grown {w w' : World} {row : Option Nat} (h : w.grownBy w' row) (hr : ∀ g, row = some g → (∃ cs fr, w.heap[g]? = some (.cells cs 3 fr)) ∨ ∃ es cl, w.heap[g]? = some (.map es cl)) : KeepT w w' := fun k t cs fr hk h1 h2 => by
  refine (h.block k (lt_of_heap hk) fun e => ?_).trans hk
  rcases hr k e.symm with ⟨cs', fr', h3⟩ | ⟨es, cl, h3⟩
  · rw [hk] at h3
    injection h3 with h3
    injection h3 with _ h3
    exact h2 h3
  · rw [hk] at h3; cases h3
theorem own_row {w : World} {base n c size : Nat} {A : Option Addr} {e : TypeId} {xs : List Value} (h : w.ownsRow base e size (.slice A n c) n xs) : ∀ g, A.map (·.block) = some g → ∃ cs fr, w.heap[g]? = some (.cells cs e fr) := by
  intro g hg
  rcases h.2 with ⟨h0, _⟩ | ⟨g', _, cur, hv, _, hc, _⟩
  · injection h0 with h0; rw [h0] at hg; cases hg
  · injection hv with hv
    rw [hv] at hg
    injection hg with hg
    subst hg
    exact ⟨cur, (0, 0), hc⟩
theorem own_map {w : World} {M n : Nat} {D : DataW Unit} {k : TypeId} {R : Value → Option (DataW Unit × List MemPlace)} (h : w.ownsMap Try.prog k R M n D) : ∃ es cl, w.heap[M]? = some (.map es cl) := by
  obtain ⟨es, cl, h, _⟩ := h
  exact ⟨es, cl, h⟩
theorem ne_of_row {w : World} {g : Nat} {cs : Array Value} {A : Option Addr} {base n c : Nat} {xs : List Value} (hb : Blk w g 46 cs) (h : w.ownsRow base 3 1 (.slice A n c) n xs) : some g ≠ A.map (·.block) := by
  intro e
  obtain ⟨cs', fr, hc⟩ := own_row h g e.symm
  have hb' : w.heap[g]? = some (.cells cs 46) := hb
  rw [hb'] at hc
  injection hc with hc
  injection hc with _ hc
  exact absurd hc (by decide)
theorem ne_of_map {w : World} {g M n : Nat} {cs : Array Value} {D : DataW Unit} {k : TypeId} {R : Value → Option (DataW Unit × List MemPlace)} (hb : Blk w g 46 cs) (h : w.ownsMap Try.prog k R M n D) : g ≠ M := by
  rintro rfl
  obtain ⟨es, cl, hc⟩ := own_map h
  have hb' : w.heap[g]? = some (.cells cs 46) := hb
  rw [hb'] at hc; cases hc
theorem row_ne_map {w : World} {M n c base m : Nat} {A : Option Addr} {xs : List Value} {D : DataW Unit} {k : TypeId} {R : Value → Option (DataW Unit × List MemPlace)} (h : w.ownsRow base 3 1 (.slice A n c) n xs) (hm : w.ownsMap Try.prog k R M m D) : A.map (·.block) ≠ some M := by
  intro e
  obtain ⟨cs, fr, hc⟩ := own_row h M e
  obtain ⟨es, cl, hc2⟩ := own_map hm
  rw [hc] at hc2; cases hc2
theorem info_int : (Try.prog.info? 3).map (fun i => (i.zero, i.size, i.bytes)) = some (some (.int .i64 0), 1, 8) := by kernel_rfl

/-- the chains with the place's row grown, ahead of what is told of it: -1 -/
def Chn1 (w : World) (base g : Nat) (bs : List UInt8) (m : Nat) (M : Nat) (A : Option Addr) (c : Nat) (v : Int) : Prop :=
  Blk w g 46 #[.map (some M), .slice A (m + 1) c] ∧ base ≤ g ∧ base ≤ M ∧ w.ownsMap Try.prog 52 (plainElem (H := Unit) Try.prog 3) M m (places bs m) ∧ w.ownsRow base 3 1 (.slice A (m + 1) c) (m + 1) ((Lzp.prevs bs m).map I64 ++ [I64 v])
theorem Chn1.below {w w' : World} {base g m M c : Nat} {A : Option Addr} {bs : List UInt8} {v : Int} (h : Chn1 w base g bs m M A c v) (hb : Below w.heap.size w w') : Chn1 w' base g bs m M A c v := by
  obtain ⟨h1, h2, h3, h4, h5⟩ := h
  refine ⟨h1.below hb h1.lt, h2, h3, ownsMap_block h4 (hb.block _ h4.lt), ownsRow_block h5 fun a ha => hb.block _ ?_⟩
  obtain ⟨cs, fr, hc⟩ := own_row h5 a.block (by rw [ha]; rfl)
  exact lt_of_heap hc
/-- behind the first store -/
theorem chn_first {w w2 : World} {base g m M c c1 : Nat} {A A1 : Option Addr} {bs : List UInt8} (h : Chn w base g bs m M A c) (hbase : base ≤ w.heap.size)
    (ho : w2.ownsRow base 3 1 (.slice A1 (m + 1) c1) (m + 1) ((Lzp.prevs bs m).map I64 ++ [I64 (-1)])) (hg : (w.alloc (.cells #[.int .i64 (-1)] 3)).grownBy w2 (A.map (·.block))) :
    Chn1 (w2.setCell ⟨g, 1, none⟩ (.slice A1 (m + 1) c1)) base g bs m M A1 c1 (-1) ∧ Below base w (w2.setCell ⟨g, 1, none⟩ (.slice A1 (m + 1) c1)) ∧ KeepT w (w2.setCell ⟨g, 1, none⟩ (.slice A1 (m + 1) c1)) ∧ Blk w2 g 46 #[.map (some M), .slice A m c] := by
  obtain ⟨h1, h2, h3, h4, h5⟩ := h
  have g1 : Blk (w.alloc (.cells #[.int .i64 (-1)] 3)) g 46 #[.map (some M), .slice A m c] := h1.alloc _
  have g5 := h5.alloc (.cells #[.int .i64 (-1)] 3)
  have g4 := h4.alloc (.cells #[.int .i64 (-1)] 3)
  have k1 : Blk w2 g 46 #[.map (some M), .slice A m c] := g1.grown hg (ne_of_row g1 g5)
  have k4 : w2.ownsMap Try.prog 52 (plainElem (H := Unit) Try.prog 3) M m (places bs m) := g4.kept hg (fun e => row_ne_map g5 g4 e.symm)
  refine ⟨⟨(k1.set_ 1 (.slice A1 (m + 1) c1)), h2, h3, k4.setCell (ne_of_map k1 k4).symm _, ownsRow_block ho fun a ha => ?_⟩, ?_, ?_, k1⟩
  · refine Below.heap_setCell w2 ⟨g, 1, none⟩ _ a.block ?_
    intro e
    exact ne_of_row k1 ho (by rw [ha]; exact congrArg some e.symm)
  · have hB : Below base w (w.alloc (.cells #[.int .i64 (-1)] 3)) := (Below.refl _ _).alloc hbase _
    exact (below_app hB hg g5 (Nat.le_trans hbase (by simp))).setCell (p := ⟨g, 1, none⟩) h2 _
  · refine ((KeepT.alloc w _).trans (KeepT.grown hg fun k hk => .inl ?_)).trans (KeepT.setCell k1 (.inl rfl) _ _)
    exact own_row g5 k hk
end Go.Proofs.Ytiakpffmjkkniaa
