/-
  Words for memory: a slice that reads as a list (nil, empty or not), bytes and numbers as cells, and how such readings are kept while memory grows.
-/
import Derived.Below
import Derived.Laws.OwnMore
import Derived.Deep.AppendLies
import Derived.Deep.Draws
import Derived.Laws.Rows
import Derived.Laws.Tables
import Derived.Deep.WholeRow
import Derived.WalkKit
import Derived.KernelRfl
namespace Go.Proofs.Ytbokbndphpdgoaa
open Go.RowKit

/-- a byte's cell -/
def B8 (b : UInt8) : Value := .int .u8 (b.toNat : Int)
/-- an int's cell -/
def I64 (n : Int) : Value := .int .i64 n

theorem block_of_add (a : Addr) (n : Nat) : (a.add n).block = a.block := by unfold Addr.add; split <;> rfl
theorem add_of_add (a : Addr) (i j : Nat) : (a.add i).add j = a.add (i + j) := by
  unfold Addr.add
  by_cases hi : i = 0 <;> by_cases hj : j = 0 <;> simp [hi, hj, Nat.add_assoc]

/-- the slice value of address A and length n holds the cells xs (size cells each), below block B -/
def Reads (w : World) (B size : Nat) (A : Option Addr) (n : Nat) (xs : List Value) : Prop :=
  xs.length = n * size ∧ (0 < n → ∃ ad, A = some ad ∧ ad.block < B ∧ ∀ j u, xs[j]? = some u → w.cell? (ad.add j) = some u)

section
variable {w w' : World} {B B' size n : Nat} {A : Option Addr} {xs : List Value}
theorem Reads.none_ : Reads w B size A 0 [] := ⟨by simp, fun h => absurd h (by omega)⟩
theorem Reads.at_ {k : Nat} (h : Reads w B 1 A n xs) (hk : k < n) : ∃ ad u, A = some ad ∧ ad.block < B ∧ xs[k]? = some u ∧ w.cell? (ad.add k) = some u := by
  obtain ⟨ad, e, hb, hc⟩ := h.2 (by omega)
  have hl : k < xs.length := by have := h.1; omega
  exact ⟨ad, xs[k], e, hb, List.getElem?_eq_getElem hl, hc k _ (List.getElem?_eq_getElem hl)⟩
theorem Reads.keep (h : Reads w B size A n xs) (hk : ∀ p : Addr, p.block < B → w'.cell? p = w.cell? p) : Reads w' B size A n xs :=
  ⟨h.1, fun hn => by
    obtain ⟨ad, e, hb, hc⟩ := h.2 hn
    exact ⟨ad, e, hb, fun j u hu => (hk _ (by rw [block_of_add]; exact hb)).trans (hc j u hu)⟩⟩
theorem Reads.more (h : Reads w B size A n xs) (hB : B ≤ B') : Reads w B' size A n xs :=
  ⟨h.1, fun hn => by
    obtain ⟨ad, e, hb, hc⟩ := h.2 hn
    exact ⟨ad, e, by omega, hc⟩⟩
theorem Reads.below (h : Reads w B size A n xs) (hb : Below B w w') : Reads w' B size A n xs := h.keep fun _ hp => hb.cell hp
theorem Reads.drew (h : Reads w B size A n xs) : Reads w.drew B size A n xs := h
theorem Reads.drewN (h : Reads w B size A n xs) (k : Nat) : Reads (w.drewN k) B size A n xs := h
theorem Reads.alloc (h : Reads w B size A n xs) (hB : B ≤ w.heap.size) (o : Obj) : Reads (w.alloc o) B size A n xs := h.keep fun p hp => World.cell?_alloc_lt w o p (by omega)
theorem Reads.setCell (h : Reads w B size A n xs) {p : Addr} (hB : B ≤ p.block) (u : Value) : Reads (w.setCell p u) B size A n xs :=
  h.keep fun q hq => World.cell?_setCell_other w p q u (fun e => by subst e; omega)
theorem Reads.grown (h : Reads w B size A n xs) {row : Option Nat} (hg : w.grownBy w' row) (hB : B ≤ w.heap.size) (hr : ∀ g, row = some g → B ≤ g) : Reads w' B size A n xs :=
  h.keep fun p hp => World.cell?_of_block (hg.block p.block (by omega) (fun e => by have := hr _ e.symm; omega))
theorem Reads.cut (h : Reads w B size A n xs) {k cap : Nat} (hk : k ≤ n) (hc : n ≤ cap) :
    Reads w B size (if cap = k then A else A.map (·.add (k * size))) (n - k) (xs.drop (k * size)) := by
  refine ⟨by rw [List.length_drop, h.1, Nat.sub_mul], fun hn => ?_⟩
  obtain ⟨ad, rfl, hb, hcell⟩ := h.2 (by omega)
  rw [if_neg (by omega)]
  refine ⟨ad.add (k * size), rfl, by rw [block_of_add]; exact hb, fun j u hu => ?_⟩
  rw [add_of_add]
  exact hcell _ u (by rw [← hu, List.getElem?_drop])
theorem Reads.take (h : Reads w B size A n xs) {k : Nat} (hk : k ≤ n) : Reads w B size A k (xs.take (k * size)) := by
  refine ⟨by rw [List.length_take, h.1]; exact Nat.min_eq_left (Nat.mul_le_mul_right _ hk), fun hn => ?_⟩
  obtain ⟨ad, rfl, hb, hcell⟩ := h.2 (by omega)
  refine ⟨ad, rfl, hb, fun j u hu => hcell j u ?_⟩
  rw [List.getElem?_take] at hu
  split at hu
  · exact hu
  · cases hu
theorem Reads.of_own {base : Nat} {e : TypeId} {c : Nat} (h : w.ownsRow base e size (.slice A n c) n xs) : Reads w w.heap.size size A n xs := by
  refine ⟨h.1, fun hn => ?_⟩
  obtain ⟨g, cap, hv, _, hlt⟩ := h.form hn
  have hA : A = some ⟨g, 0, none⟩ := by injection hv
  subst hA
  exact ⟨_, rfl, hlt, h.cells (g := g) rfl⟩
end

theorem lt_of_cell {w : World} {p : Addr} {v : Value} (h : w.cell? p = some v) : p.block < w.heap.size := by
  rcases Nat.lt_or_ge p.block w.heap.size with hlt | hge
  · exact hlt
  · simp [World.cell?, Array.getElem?_eq_none hge] at h
theorem get_map {α : Type} (f : α → Value) (l : List α) (k : Nat) (u : Value) (h : (l.map f)[k]? = some u) : ∃ x, l[k]? = some x ∧ u = f x := by
  rw [List.getElem?_map] at h
  cases hx : l[k]? with
  | none => rw [hx] at h; cases h
  | some x => rw [hx] at h; exact ⟨x, rfl, by injection h with h; exact h.symm⟩
/-- a byte of a slice that is read -/
theorem Reads.byte {w : World} {B n k : Nat} {A : Option Addr} {bs : List UInt8} (h : Reads w B 1 A n (bs.map B8)) (hk : k < n) :
    ∃ ad b, A = some ad ∧ ad.block < B ∧ bs[k]? = some b ∧ w.cell? (ad.add k) = some (.int .u8 (b.toNat : Int)) := by
  obtain ⟨ad, u, hA, hb, hx, hc⟩ := h.at_ hk
  obtain ⟨b, hb1, rfl⟩ := get_map B8 bs k u hx
  exact ⟨ad, b, hA, hb, hb1, hc⟩
theorem Reads.cell_at {w : World} {B n k : Nat} {ad : Addr} {bs : List UInt8} {b : UInt8} (h : Reads w B 1 (some ad) n (bs.map B8)) (hb : bs[k]? = some b) : w.cell? (ad.add k) = some (.int .u8 (b.toNat : Int)) := by
  have hl : k < bs.length := (List.getElem?_eq_some_iff.1 hb).1
  obtain ⟨ad', e, _, hc⟩ := h.2 (by have := h.1; simp at this; omega)
  injection e with e
  subst e
  exact hc k (B8 b) (by rw [List.getElem?_map, hb]; rfl)
theorem Reads.len {w : World} {B n : Nat} {A : Option Addr} {α : Type} {f : α → Value} {bs : List α} (h : Reads w B 1 A n (bs.map f)) : bs.length = n := by
  have := h.1; simpa using this

/-- block g is just the cells cs of element type t, none frozen -/
def Blk (w : World) (g : Nat) (t : TypeId) (cs : Array Value) : Prop := w.heap[g]? = some (.cells cs t (0, 0))

section
variable {w w' : World} {g : Nat} {t : TypeId} {cs : Array Value}
theorem Blk.lt (h : Blk w g t cs) : g < w.heap.size := by
  rcases Nat.lt_or_ge g w.heap.size with hlt | hge
  · exact hlt
  · unfold Blk at h; rw [Array.getElem?_eq_none hge] at h; cases h
theorem Blk.cell (h : Blk w g t cs) (i : Nat) : w.cell? ⟨g, i, none⟩ = cs[i]? := cell_of_row w g i cs t (0, 0) h
theorem Blk.frozen (h : Blk w g t cs) (i : Nat) : w.frozen? ⟨g, i, none⟩ = false := by
  unfold Blk at h
  simp [World.frozen?, h]
theorem Blk.new (w : World) (t : TypeId) (cs : Array Value) : Blk (w.alloc (.cells cs t)) w.heap.size t cs := heap_alloc_new w _
theorem Blk.drew (h : Blk w g t cs) : Blk w.drew g t cs := h
theorem Blk.drewN (h : Blk w g t cs) (n : Nat) : Blk (w.drewN n) g t cs := h
theorem Blk.alloc (h : Blk w g t cs) (o : Obj) : Blk (w.alloc o) g t cs := (Below.heap_alloc w o g h.lt).trans h
theorem Blk.set_ (h : Blk w g t cs) (i : Nat) (u : Value) : Blk (w.setCell ⟨g, i, none⟩ u) g t (cs.setIfInBounds i u) := by
  unfold Blk at h ⊢
  simp [World.setCell, Array.getElem?_modify, h]
theorem Blk.far (h : Blk w g t cs) {p : Addr} (hp : g ≠ p.block) (u : Value) : Blk (w.setCell p u) g t cs := (Below.heap_setCell w p u g hp).trans h
theorem Blk.below {B : Nat} (h : Blk w g t cs) (hb : Below B w w') (hg : g < B) : Blk w' g t cs := (hb.block g hg).trans h
theorem Blk.grown {row : Option Nat} (h : Blk w g t cs) (hb : w.grownBy w' row) (hg : some g ≠ row) : Blk w' g t cs := (hb.block g h.lt hg).trans h
theorem Blk.ne_ {g' : Nat} {t' : TypeId} {cs' : Array Value} (h : Blk w g t cs) (h' : Blk w g' t' cs') (hne : t ≠ t') : g ≠ g' := by
  rintro rfl
  unfold Blk at h h'
  rw [h] at h'
  injection h' with h'
  injection h' with _ ht
  exact hne ht
theorem Blk.row (h : Blk w g t cs) (ds : Array Value) : Blk (w.setRow g ds) g t ds := setRow_heap w g cs ds t (0, 0) h
theorem Blk.rowFar {g' : Nat} (h : Blk w g t cs) (hne : g ≠ g') (ds : Array Value) : Blk (w.setRow g' ds) g t cs := (setRow_other w g' g ds hne).trans h
theorem below_row {B : Nat} {a : World} (h : Below B a w) (hB : B ≤ g) (ds : Array Value) : Below B a (w.setRow g ds) :=
  h.trans ⟨rfl, rfl, rfl, by rw [size_setRow]; exact Nat.le_refl _, fun k hk => setRow_other w g k ds (by omega)⟩
end

/-! what a call makes and hands back -/
/-- the call handed back a slice of its own: it owns the cells xs; what was there is as it was -/
def Fresh (w w' : World) (E : TypeId) (A : Option Addr) (n c : Nat) (xs : List Value) : Prop := w'.ownsRow w.heap.size E 1 (.slice A n c) n xs ∧ Below w.heap.size w w'
theorem Fresh.reads {w w' : World} {E : TypeId} {A : Option Addr} {n c : Nat} {xs : List Value} (h : Fresh w w' E A n c xs) : Reads w' w'.heap.size 1 A n xs := Reads.of_own h.1
theorem Fresh.below {w w' : World} {E : TypeId} {A : Option Addr} {n c : Nat} {xs : List Value} (h : Fresh w w' E A n c xs) : Below w.heap.size w w' := h.2
theorem Fresh.nil (w : World) (E : TypeId) : Fresh w w E none 0 0 [] := ⟨World.ownsRow_nil w _ E 1, Below.refl _ _⟩
/-- an owned value is a slice -/
theorem own_slice {w : World} {base : Nat} {E : TypeId} {v : Value} {n : Nat} {xs : List Value} (h : w.ownsRow base E 1 v n xs) : ∃ A c, v = .slice A n c := by
  rcases h.2 with ⟨rfl, rfl⟩ | ⟨g, cap, cur, rfl, _⟩
  · exact ⟨none, 0, rfl⟩
  · exact ⟨_, cap, rfl⟩

theorem own_cap {w : World} {base : Nat} {E : TypeId} {size n c : Nat} {A : Option Addr} {xs : List Value} (h : w.ownsRow base E size (.slice A n c) n xs) : n ≤ c ∧ c ≤ maxLen := by
  rcases h.2 with ⟨h0, h1⟩ | ⟨g, cap, cur, h0, _, _, h2, h3, _⟩
  · injection h0 with _ _ h4
    subst h4; subst h1
    exact ⟨Nat.le_refl _, Nat.zero_le _⟩
  · injection h0 with _ _ h4
    subst h4
    exact ⟨h2, h3⟩

/-- what a call owns below the world's size stays owned while only newer memory turns -/
theorem own_below {w w' : World} {base : Nat} {E : TypeId} {size n : Nat} {v : Value} {xs : List Value} (h : w.ownsRow base E size v n xs) (hb : Below w.heap.size w w') : w'.ownsRow base E size v n xs := by
  refine ⟨h.1, ?_⟩
  rcases h.2 with hn | ⟨g, cap, cur, rfl, h1, h2, h3⟩
  · exact .inl hn
  · have hlt : g < w.heap.size := by
      rcases Nat.lt_or_ge g w.heap.size with hlt | hge
      · exact hlt
      · rw [Array.getElem?_eq_none hge] at h2; cases h2
    exact .inr ⟨g, cap, cur, rfl, h1, (hb.block g hlt).trans h2, h3⟩

theorem own_base {w : World} {base base' : Nat} {E : TypeId} {size n : Nat} {v : Value} {xs : List Value} (h : w.ownsRow base E size v n xs) (hb : base' ≤ base) : w.ownsRow base' E size v n xs := by
  refine ⟨h.1, ?_⟩
  rcases h.2 with hn | ⟨g, cap, cur, rfl, h1, h2⟩
  · exact .inl hn
  · exact .inr ⟨g, cap, cur, rfl, Nat.le_trans hb h1, h2⟩

/-! bytes as a string -/
theorem push_all : ∀ (ns : List UInt8) (s : ByteArray), (ns.map (fun b => (b.toNat : Int))).foldl (fun r n => r.push (UInt8.ofNat n.toNat)) s = ⟨s.data ++ ns.toArray⟩
  | [], s => by simp
  | b :: ns, s => by
    rw [List.map_cons, List.foldl_cons, push_all ns]
    have e : UInt8.ofNat ((b.toNat : Int).toNat) = b := by simp
    rw [e]
    apply ByteArray.ext
    simp [ByteArray.push]
theorem run_str {P : Program} {w : World} {B n c : Nat} {A : Option Addr} {bs : List UInt8} (src dst e : TypeId)
    (hs : P.underlying src = some (.slice e)) (he : P.underlying e = some (.int .u8)) (hd : P.underlying dst = some .string) (h : Reads w B 1 A n (bs.map B8)) :
    (convert src dst (.slice A n c)).run P w = .ok (.string ⟨bs.toArray⟩) w := by
  rw [run_convert_bytes_string w src dst e A n c hs he hd]
  have hlen := h.len
  rcases A with _ | ad
  · have h0 : n = 0 := by
      rcases Nat.eq_zero_or_pos n with h0 | h0
      · exact h0
      · obtain ⟨ad, he, _⟩ := h.2 h0; cases he
    have hb : bs = [] := List.eq_nil_of_length_eq_zero (by omega)
    subst hb
    simp [Conv.bytesToString, Sem.run_pure]
    rfl
  · have hl : (loadCells ad n).run P w = .ok ((bs.map (fun b => (b.toNat : Int))).map (Value.int .u8)).toArray w := by
      have e1 : (bs.map (fun b => (b.toNat : Int))).map (Value.int .u8) = bs.map B8 := by rw [List.map_map]; rfl
      rw [e1]
      have := run_loadCells_list (P := P) (w := w) ad (bs.map B8) (fun j v hv => by
        have hn : 0 < n := by
          rcases Nat.eq_zero_or_pos n with h0 | h0
          · have hb : bs = [] := List.eq_nil_of_length_eq_zero (by omega)
            subst hb; simp at hv
          · exact h0
        obtain ⟨ad', he', _, hc⟩ := h.2 hn
        injection he' with he'
        subst he'
        exact hc j v hv)
      rwa [List.length_map, hlen] at this
    rw [run_bytesToString w ad n c _ hl, push_all]
    simp

/-! a world that has drawn orders and is else the same -/
def Dr (w w' : World) : Prop := ∃ m, w' = w.drewN m
theorem Dr.refl (w : World) : Dr w w := ⟨0, rfl⟩
theorem Dr.drewN {a w : World} (h : Dr a w) (n : Nat) : Dr a (w.drewN n) := by
  obtain ⟨m, rfl⟩ := h
  exact ⟨m + n, by rw [World.drewN_drewN]⟩
theorem Dr.trans {a b c : World} (h : Dr a b) (k : Dr b c) : Dr a c := by
  obtain ⟨m, rfl⟩ := k
  exact h.drewN m
theorem Dr.reads {a w : World} (h : Dr a w) {B size n : Nat} {A : Option Addr} {xs : List Value} (r : Reads a B size A n xs) : Reads w B size A n xs := by
  obtain ⟨m, rfl⟩ := h
  exact r.drewN m
theorem Dr.size {a w : World} (h : Dr a w) : w.heap.size = a.heap.size := by
  obtain ⟨m, rfl⟩ := h
  rfl
theorem Dr.below {a w : World} (h : Dr a w) (B : Nat) : Below B a w := by
  obtain ⟨m, rfl⟩ := h
  exact ⟨rfl, rfl, rfl, Nat.le_refl _, fun _ _ => rfl⟩

/-! two laws on operations, with the world behind them a name -/
section
variable {P : Program} {w : World} {ops : Array Oper} {rest : List Oper} {o : Oper} {a : Act} {Q : Exit → Act → World → Prop}
/-- a whole array (or struct) stored into a block of the call's own -/
theorem wpList_store_box (hgd : o.guard = none) (ty : TypeId) (x y : Operand) (ho : o.op = .store ty x y)
    (g : Nat) (cells : Array Value) (hx : a.eval x = .pointer (some ⟨g, 0, none⟩)) (hy : a.eval y = .agg cells)
    (t : TypeId) (old : Array Value) (hg : Blk w g t old) (hi : (P.info? ty).map (·.size) = some cells.size)
    (hold : old.size = cells.size) (h1 : cells.all (·.oneCell') = true)
    (h : ∀ w2, Blk w2 g t cells → (∀ b, b ≠ g → w2.heap[b]? = w.heap[b]?) → (∀ B a, Below B a w → B ≤ g → Below B a w2) → w2.heap.size = w.heap.size → wpList P ops Q rest (a.put o.dst undef) w2) : wpList P ops Q (o :: rest) a w :=
  wpList_store_row hgd ty x y ho g cells hx hy t old hg hi hold h1 (h _ (hg.row cells) (fun b hb => setRow_other w g b cells hb) (fun _ _ hB hBg => below_row hB hBg cells) (size_setRow w g cells))
end
/-- an owned slice and a block known whole of another element type lie apart -/
theorem own_blk_ne {w : World} {g : Nat} {t : TypeId} {cs : Array Value} {base : Nat} {e : TypeId} {size n : Nat} {v : Value} {xs : List Value} (h : w.ownsRow base e size v n xs) (hg : Blk w g t cs) (hne : e ≠ t) : v.ownBlock ≠ some g := by
  rcases h.2 with ⟨rfl, _⟩ | ⟨g', cap, cur, rfl, _, hh, _⟩
  · simp [Value.ownBlock]
  · intro he
    have : g' = g := by simpa [Value.ownBlock] using he
    subst this
    exact Blk.ne_ (t := e) hh hg hne rfl

/-- bytes of the call's own and an error -/
def SlErr (E : TypeId) (w : World) (r : List UInt8) (er : Int) (e : Ending) (w' : World) : Prop := ∃ A c, e = .returned (.tuple #[.slice A r.length c, .int .i64 er]) ∧ Fresh w w' E A r.length c (r.map B8)
/-- the same, the length by a number's name -/
def SlErrN (E : TypeId) (w : World) (n : Nat) (r : List UInt8) (er : Int) (e : Ending) (w' : World) : Prop := ∃ A c, e = .returned (.tuple #[.slice A n c, .int .i64 er]) ∧ Fresh w w' E A n c (r.map B8)
theorem SlErrN_eq {E : TypeId} {w : World} {n : Nat} {r : List UInt8} {er : Int} (h : r.length = n) : SlErr E w r er = SlErrN E w n r er := by subst h; rfl

/-! a slice cut behind its head: the address under one name -/
def cutA (A : Option Addr) (c k s : Nat) : Option Addr := if c = k then A else A.map (·.add (k * s))
theorem run_cut_lo {P : Program} (t e : TypeId) (i : TypeInfo) (s : Nat) (ht : P.underlying t = some (.slice e)) (hi : P.info? e = some i) (hs : i.size = s) (A : Option Addr) (n c k : Nat) (kl : IntKind) (hk : k ≤ n) (W : World) :
    (Instr.slice t (.slice A n c) (some (.int kl (k : Int))) none none).run P W = .ok (.slice (cutA A c k s) (n - k) (c - k)) W := by
  have he : P.elem t = e := by simp [Program.elem, ht]
  rw [run_slice_l (t := t) (a := A) (len := n) (cap := c) (ht := by rw [he]; exact ht) (kl := kl) (l := (k : Int)) (h0 := by omega) (h1 := by omega), he]
  have hz : (sizeOf e).run P W = .ok s W := by simp [sizeOf, typeInfo, hi, hs]
  rw [hz]
  simp [Result.andThen, sliced, cutA]
theorem run_cut_lh {P : Program} (t e : TypeId) (i : TypeInfo) (s : Nat) (ht : P.underlying t = some (.slice e)) (hi : P.info? e = some i) (hs : i.size = s) (A : Option Addr) (n c k h : Nat) (kl kh : IntKind) (hk : k ≤ h) (hh : h ≤ c) (W : World) :
    (Instr.slice t (.slice A n c) (some (.int kl (k : Int))) (some (.int kh (h : Int))) none).run P W = .ok (.slice (cutA A c k s) (h - k) (c - k)) W := by
  have he : P.elem t = e := by simp [Program.elem, ht]
  rw [run_slice_lh (t := t) (a := A) (len := n) (cap := c) (ht := by rw [he]; exact ht) (kl := kl) (kh := kh) (l := (k : Int)) (h := (h : Int)) (h0 := by omega) (h1 := by omega) (h2 := by omega), he]
  have hz : (sizeOf e).run P W = .ok s W := by simp [sizeOf, typeInfo, hi, hs]
  rw [hz]
  simp [Result.andThen, sliced, cutA]
theorem Reads.cutN {w : World} {B n k c : Nat} {A : Option Addr} {α : Type} {f : α → Value} {bs : List α} (h : Reads w B 1 A n (bs.map f)) (hk : k ≤ n) (hc : n ≤ c) : Reads w B 1 (cutA A c k 1) (n - k) ((bs.drop k).map f) := by
  have h2 := h.cut hk hc
  rw [List.map_drop]
  rw [Nat.mul_one] at h2
  unfold cutA
  rw [Nat.mul_one]
  exact h2
theorem Reads.takeN {w : World} {B n k : Nat} {A : Option Addr} {α : Type} {f : α → Value} {bs : List α} (h : Reads w B 1 A n (bs.map f)) (hk : k ≤ n) : Reads w B 1 A k ((bs.take k).map f) := by
  have h2 := h.take hk
  rw [Nat.mul_one] at h2
  rw [List.map_take]; exact h2

/-! lists of lists of bytes -/
/-- a list of lists of bytes, below block B -/
def Rows8 (w : World) (B : Nat) (A : Option Addr) (n : Nat) (xss : List (List UInt8)) : Prop :=
  ∃ cs : List Value, Reads w B 1 A n cs ∧ xss.length = n ∧ ∀ (i : Nat) (xs : List UInt8), xss[i]? = some xs → ∃ (Ai : Option Addr) (ni ci : Nat), cs[i]? = some (.slice Ai ni ci) ∧ ni ≤ ci ∧ ci ≤ maxLen ∧ Reads w B 1 Ai ni (xs.map B8)
theorem Rows8.row {w : World} {B n k : Nat} {A : Option Addr} {xss : List (List UInt8)} (h : Rows8 w B A n xss) (hk : k < n) :
    ∃ ad xs Ai ni ci, A = some ad ∧ ad.block < B ∧ xss[k]? = some xs ∧ w.cell? (ad.add k) = some (.slice Ai ni ci) ∧ ni ≤ ci ∧ ci ≤ maxLen ∧ Reads w B 1 Ai ni (xs.map B8) := by
  obtain ⟨cs, hr, hl, hc⟩ := h
  obtain ⟨ad, u, hA, hb, hu, hcell⟩ := hr.at_ hk
  obtain ⟨Ai, ni, ci, h1, h2, h3, h4⟩ := hc k (xss[k]'(by omega)) (List.getElem?_eq_getElem _)
  rw [hu] at h1
  injection h1 with h1
  subst h1
  exact ⟨ad, _, Ai, ni, ci, hA, hb, List.getElem?_eq_getElem _, hcell, h2, h3, h4⟩
theorem Rows8.below {w w' : World} {B n : Nat} {A : Option Addr} {xss : List (List UInt8)} (h : Rows8 w B A n xss) (hb : Below B w w') : Rows8 w' B A n xss := by
  obtain ⟨cs, hr, hl, hc⟩ := h
  refine ⟨cs, hr.below hb, hl, fun i xs hi => ?_⟩
  obtain ⟨Ai, ni, ci, h1, h2, h3, h4⟩ := hc i xs hi
  exact ⟨Ai, ni, ci, h1, h2, h3, h4.below hb⟩
theorem Rows8.more {w : World} {B B' n : Nat} {A : Option Addr} {xss : List (List UInt8)} (h : Rows8 w B A n xss) (hB : B ≤ B') : Rows8 w B' A n xss := by
  obtain ⟨cs, hr, hl, hc⟩ := h
  refine ⟨cs, hr.more hB, hl, fun i xs hi => ?_⟩
  obtain ⟨Ai, ni, ci, h1, h2, h3, h4⟩ := hc i xs hi
  exact ⟨Ai, ni, ci, h1, h2, h3, h4.more hB⟩

/-- one list of bytes as a list of lists: the box that the call makes -/
theorem rows8_one {w : World} {B n c : Nat} {A : Option Addr} {bs : List UInt8} (t : TypeId) (h : Reads w B 1 A n (bs.map B8)) (hB : B ≤ w.heap.size) (hc : n ≤ c) (hm : c ≤ maxLen) :
    Rows8 (w.alloc (.cells #[.slice A n c] t)) (w.heap.size + 1) (some ⟨w.heap.size, 0, none⟩) 1 [bs] := by
  refine ⟨[.slice A n c], ⟨rfl, fun _ => ⟨_, rfl, Nat.lt_succ_self _, fun j u hu => ?_⟩⟩, rfl, fun i xs hi => ?_⟩
  · match j, hu with
    | 0, hu =>
      simp at hu
      subst hu
      exact (Blk.new w t #[.slice A n c]).cell 0
  · match i, hi with
    | 0, hi =>
      simp at hi
      subst hi
      exact ⟨A, n, c, rfl, hc, hm, (h.alloc hB _).more (by omega)⟩

/-- lists of bytes in a new box -/
theorem rows8_new {w : World} {B : Nat} (t : TypeId) (vs : List Value) (xss : List (List UInt8)) (hB : B ≤ w.heap.size) (hl : vs.length = xss.length)
    (h : ∀ (i : Nat) (xs : List UInt8), xss[i]? = some xs → ∃ (Ai : Option Addr) (ni ci : Nat), vs[i]? = some (.slice Ai ni ci) ∧ ni ≤ ci ∧ ci ≤ maxLen ∧ Reads w B 1 Ai ni (xs.map B8)) :
    Rows8 (w.alloc (.cells vs.toArray t)) (w.heap.size + 1) (some ⟨w.heap.size, 0, none⟩) vs.length xss := by
  refine ⟨vs, ⟨by simp, fun _ => ⟨_, rfl, Nat.lt_succ_self _, fun j u hu => ?_⟩⟩, hl.symm, fun i xs hi => ?_⟩
  · have e : (⟨w.heap.size, 0, none⟩ : Addr).add j = ⟨w.heap.size, j, none⟩ := by unfold Addr.add; split <;> simp_all
    rw [e, (Blk.new w t vs.toArray).cell j]
    simpa using hu
  · obtain ⟨Ai, ni, ci, h1, h2, h3, h4⟩ := h i xs hi
    exact ⟨Ai, ni, ci, h1, h2, h3, (h4.alloc hB _).more (by omega)⟩
theorem rows8_nil (w : World) (B : Nat) : Rows8 w B none 0 [] := ⟨[], Reads.none_, rfl, fun i xs hi => by simp at hi⟩

end Go.Proofs.Ytbokbndphpdgoaa
