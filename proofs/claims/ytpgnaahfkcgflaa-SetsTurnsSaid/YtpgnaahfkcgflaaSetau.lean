/-
  What one or more lists have: the queue, plain and in memory.
-/
import Derived.Test.YtpgnaahfkcgflaaSetcl
namespace Go.Proofs.Ytpgnaahfkcgflaa
set_option linter.unusedSimpArgs false
set_option linter.unusedVariables false
open Go.RowKit

namespace Setp
/-- all are sets, and what one or more have is what xss' have -/
def Qu (xss yss : List (List Int)) : Prop := (∀ l ∈ yss, may l = true) ∧ ∀ z, (∃ l ∈ yss, z ∈ l) ↔ ∃ l ∈ xss, z ∈ l
theorem Qu.start {xss : List (List Int)} (h : ∀ l ∈ xss, may l = true) : Qu xss xss := ⟨h, fun _ => Iff.rfl⟩
theorem Qu.step {xss t : List (List Int)} {a b : List Int} (h : Qu xss (a :: b :: t)) : Qu xss (t ++ [merge a b]) := by
  refine ⟨fun l hl => ?_, fun z => ?_⟩
  · rcases List.mem_append.1 hl with h1 | h1
    · exact h.1 l (List.mem_cons_of_mem _ (List.mem_cons_of_mem _ h1))
    · rw [List.mem_singleton.1 h1]
      exact may_merge (h.1 a (List.mem_cons_self ..)) (h.1 b (List.mem_cons_of_mem _ (List.mem_cons_self ..)))
  · rw [← h.2 z]
    constructor
    · rintro ⟨l, hl, hz⟩
      rcases List.mem_append.1 hl with h1 | h1
      · exact ⟨l, List.mem_cons_of_mem _ (List.mem_cons_of_mem _ h1), hz⟩
      · rw [List.mem_singleton.1 h1] at hz
        rcases (mem_merge z a b).1 hz with h2 | h2
        · exact ⟨a, List.mem_cons_self .., h2⟩
        · exact ⟨b, List.mem_cons_of_mem _ (List.mem_cons_self ..), h2⟩
    · rintro ⟨l, hl, hz⟩
      rcases List.mem_cons.1 hl with h1 | h1
      · subst h1
        exact ⟨merge l b, List.mem_append_right _ (List.mem_singleton.2 rfl), (mem_merge z l b).2 (.inl hz)⟩
      · rcases List.mem_cons.1 h1 with h2 | h2
        · subst h2
          exact ⟨merge a l, List.mem_append_right _ (List.mem_singleton.2 rfl), (mem_merge z a l).2 (.inr hz)⟩
        · exact ⟨l, List.mem_append_left _ h2, hz⟩
theorem Qu.one {xss : List (List Int)} {l : List Int} (h : Qu xss [l]) (hx : ∀ l ∈ xss, may l = true) : l = anyL xss :=
  anyL_eq hx (h.1 l (List.mem_cons_self ..)) (fun z => by rw [← h.2 z]; simp)
/-- the lengths together -/
def total : List (List Int) → Nat
  | [] => 0
  | l :: t => l.length + total t
theorem total_append : ∀ xs ys : List (List Int), total (xs ++ ys) = total xs + total ys
  | [], ys => by simp [total]
  | x :: xs, ys => by simp only [List.cons_append, total, total_append xs ys]; omega
theorem total_step {t : List (List Int)} {a b : List Int} : total (t ++ [merge a b]) ≤ total (a :: b :: t) := by
  rw [total_append]
  have := len_merge a b
  simp only [total]; omega
theorem total_le : ∀ (xss : List (List Int)) (b : Nat), (∀ l ∈ xss, l.length ≤ b) → total xss ≤ xss.length * b
  | [], b, _ => by simp [total]
  | l :: t, b, h => by
    have h1 := total_le t b (fun l' h' => h l' (List.mem_cons_of_mem _ h'))
    have h2 := h l (List.mem_cons_self ..)
    simp only [total, List.length_cons, Nat.succ_mul]; omega
end Setp

/-- an element of the queue: an argument's list, or one that the call owns -/
def El (w0 W : World) (v : Value) (ys : List Int) : Prop := ∃ (Ai : Option Addr) (ni ci : Nat), v = .slice Ai ni ci ∧ ni ≤ ci ∧ (Reads w0 w0.heap.size 1 Ai ni (ys.map I64) ∨ W.ownsRow w0.heap.size 3 1 (.slice Ai ni ci) ni (ys.map I64))
theorem El.reads {w0 W : World} {v : Value} {ys : List Int} (h : El w0 W v ys) (hB : Below w0.heap.size w0 W) : ∃ (Ai : Option Addr) (ni ci : Nat), v = .slice Ai ni ci ∧ ni ≤ ci ∧ Reads W W.heap.size 1 Ai ni (ys.map I64) := by
  obtain ⟨Ai, ni, ci, e, h1, h2⟩ := h
  refine ⟨Ai, ni, ci, e, h1, ?_⟩
  rcases h2 with h2 | h2
  · exact (h2.below hB).more hB.size
  · exact Reads.of_own h2
theorem El.below {w0 W W' : World} {v : Value} {ys : List Int} (h : El w0 W v ys) (hb : Below W.heap.size W W') : El w0 W' v ys := by
  obtain ⟨Ai, ni, ci, e, h1, h2⟩ := h
  exact ⟨Ai, ni, ci, e, h1, h2.imp id fun h2 => own_belowI h2 hb⟩
theorem El.drew {w0 W : World} {v : Value} {ys : List Int} (h : El w0 W v ys) : El w0 W.drew v ys := h
theorem El.grown {w0 W W' : World} {base n c : Nat} {e : TypeId} {A : Option Addr} {vs : List Value} {v : Value} {ys : List Int} (h : El w0 W v ys) (hm : Mid W base e A n c vs) (hg : W.grownBy W' (A.map (·.block))) (hne : 3 ≠ e) : El w0 W' v ys := by
  obtain ⟨Ai, ni, ci, ev, h1, h2⟩ := h
  refine ⟨Ai, ni, ci, ev, h1, h2.imp id fun h2 => own_keep h2 fun a ha => ?_⟩
  obtain ⟨cs, hc, _⟩ := own_at h2 a ha
  obtain ⟨_, _, _, g, off, cur, rfl, _, hb, _⟩ := hm
  exact hg.block _ hc.lt fun e1 => by
    injection e1 with e1
    exact hc.ne_ hb hne e1
theorem El.one {w0 W : World} {v : Value} {ys : List Int} (h : El w0 W v ys) : v.oneCell' = true := by
  obtain ⟨Ai, ni, ci, e, _⟩ := h
  subst e; rfl
theorem Mid.below {w w' : World} {base n c : Nat} {e : TypeId} {A : Option Addr} {xs : List Value} (h : Mid w base e A n c xs) (hb : Below w.heap.size w w') : Mid w' base e A n c xs := by
  obtain ⟨hl, hnc, hcm, g, off, cur, hA, hbb, hg, hsz, hx⟩ := h
  exact ⟨hl, hnc, hcm, g, off, cur, hA, hbb, hg.below hb hg.lt, hsz, hx⟩
theorem Mid.alloc {w : World} {base n c : Nat} {e : TypeId} {A : Option Addr} {xs : List Value} (h : Mid w base e A n c xs) (o : Obj) : Mid (w.alloc o) base e A n c xs := h.below ((Below.refl _ _).alloc (Nat.le_refl _) o)
theorem Mid.belowG {a w w' : World} {base n c : Nat} {e : TypeId} {A : Option Addr} {xs : List Value} (h : Mid w base e A n c xs) (hB : Below base a w) (hg : w.grownBy w' (A.map (·.block))) (hs : base ≤ w.heap.size) : Below base a w' := by
  obtain ⟨_, _, _, g, off, cur, rfl, hb, _⟩ := h
  exact hB.grown hg hs (fun k hk => by
    simp at hk
    omega)
theorem below_of_drew {B : Nat} {a w : World} (h : Below B a.drew w) : Below B a w := ⟨h.os, h.tape, h.output, h.size, h.block⟩
theorem El.queue {w0 W W' : World} {vs : List Value} {xss : List (List Int)} {u v : Value} {a b l : List Int} (h : ∀ (i : Nat) x ys, (u :: v :: vs)[i]? = some x → (a :: b :: xss)[i]? = some ys → El w0 W x ys) (hl : vs.length = xss.length) (k : ∀ x ys, El w0 W x ys → El w0 W' x ys) {z : Value} (hz : El w0 W' z l) :
    ∀ (i : Nat) x ys, (vs ++ [z])[i]? = some x → (xss ++ [l])[i]? = some ys → El w0 W' x ys := by
  intro i x ys hx hy
  by_cases hi : i < vs.length
  · rw [List.getElem?_append_left hi] at hx
    rw [List.getElem?_append_left (by omega)] at hy
    exact k _ _ (h (i + 2) x ys (by simpa using hx) (by simpa using hy))
  · have hlt := (List.getElem?_eq_some_iff.1 hx).1
    rw [List.length_append, List.length_singleton] at hlt
    have e : i = vs.length := by omega
    rw [e, List.getElem?_append_right (Nat.le_refl _), Nat.sub_self] at hx
    rw [e, hl, List.getElem?_append_right (Nat.le_refl _), Nat.sub_self] at hy
    simp at hx hy
    subst hx hy
    exact hz
end Go.Proofs.Ytpgnaahfkcgflaa
