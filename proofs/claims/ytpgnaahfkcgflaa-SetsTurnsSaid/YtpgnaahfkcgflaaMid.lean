/-
  A slice that may begin inside its block: cut ahead, appended to.
-/
import Derived.Test.YtpgnaahfkcgflaaApp
import Derived.ArgAppend
namespace Go.Proofs.Ytpgnaahfkcgflaa
set_option linter.unusedSimpArgs false
set_option linter.unusedVariables false
open Go.RowKit

/-- a slice of the call's own that may begin inside its block (elements of one cell) -/
def Mid (w : World) (base : Nat) (e : TypeId) (A : Option Addr) (n c : Nat) (xs : List Value) : Prop :=
  xs.length = n ∧ n ≤ c ∧ c ≤ maxLen ∧ ∃ g off cur, A = some ⟨g, off, none⟩ ∧ base ≤ g ∧ Blk w g e cur ∧ off + c ≤ cur.size ∧ ∀ j u, xs[j]? = some u → cur[off + j]? = some u
theorem Mid.of_own {w : World} {base n c : Nat} {e : TypeId} {ad : Addr} {xs : List Value} (h : w.ownsRow base e 1 (.slice (some ad) n c) n xs) : Mid w base e (some ad) n c xs := by
  have hl := h.1
  rcases h.2 with ⟨h0, _⟩ | ⟨g, cap, cur, hv, hb, hg, hnc, hcm, hcur, htk⟩
  · cases h0
  · injection hv with hA _ hcap
    subst hcap
    refine ⟨by omega, hnc, hcm, g, 0, cur, hA, hb, hg, by omega, fun j u hu => ?_⟩
    rw [Nat.mul_one] at htk
    rw [← htk, List.getElem?_take] at hu
    split at hu
    · rw [Nat.zero_add]; simpa using hu
    · cases hu
theorem Mid.reads {w : World} {base n c : Nat} {e : TypeId} {A : Option Addr} {xs : List Value} (h : Mid w base e A n c xs) : Reads w w.heap.size 1 A n xs := by
  obtain ⟨hl, hnc, hcm, g, off, cur, rfl, hb, hg, hsz, hx⟩ := h
  refine ⟨by omega, fun hn => ⟨_, rfl, hg.lt, fun j u hu => ?_⟩⟩
  have e1 : (⟨g, off, none⟩ : Addr).add j = ⟨g, off + j, none⟩ := by
    unfold Addr.add
    split
    · rename_i h0; subst h0; rfl
    · rfl
  rw [e1, hg.cell]
  exact hx j u hu
theorem Mid.cut {w : World} {base n c k : Nat} {e : TypeId} {A : Option Addr} {xs : List Value} (h : Mid w base e A n c xs) (hk : k ≤ n) : Mid w base e (cutA A c k 1) (n - k) (c - k) (xs.drop k) := by
  obtain ⟨hl, hnc, hcm, g, off, cur, rfl, hb, hg, hsz, hx⟩ := h
  refine ⟨by rw [List.length_drop]; omega, by omega, by omega, ?_⟩
  unfold cutA
  by_cases hc : c = k
  · rw [if_pos hc]
    exact ⟨g, off, cur, rfl, hb, hg, by omega, fun j u hu => by
      rw [List.drop_of_length_le (by omega)] at hu; simp at hu⟩
  · rw [if_neg hc]
    refine ⟨g, off + k, cur, ?_, hb, hg, by omega, fun j u hu => ?_⟩
    · rw [Nat.mul_one, Option.map_some]
      congr 1
      unfold Addr.add
      split
      · rename_i h0; subst h0; rfl
      · rfl
    · rw [List.getElem?_drop] at hu
      rw [Nat.add_assoc]; exact hx _ u hu

section
variable {P : Program} {w : World}
theorem run_append_mid (t ty e : TypeId) (i : TypeInfo) (z : Value) (bytes : Nat) (ht : P.underlying t = some (.slice e)) (hi : P.info? e = some i) (hz : i.zero = some z) (hsize : i.size = 1) (hby : i.bytes = bytes) (hzs : z.cells.size = 1)
    (base : Nat) (A : Option Addr) (n c : Nat) (xs : List Value) (hm : Mid w base e A n c xs) (hbw : base ≤ w.heap.size) (ad : Addr) (k : Nat) (v : Value) (hv : w.cell? ad = some v) (h1 : v.oneCell' = true) (h63 : n + 1 ≤ maxLen) (hbytes : (n + 1) * bytes ≤ 140737488355328) :
    ∃ A' c' w', (Builtin.append_ #[t, t] ty #[.slice A n c, .slice (some ad) 1 k]).run P w = .ok (.slice A' (n + 1) c') w' ∧ Mid w' base e A' (n + 1) c' (xs ++ [v]) ∧ w.grownBy w' (A.map (·.block)) ∧ (∀ p u, w.cell? p = some u → (n + 1 ≤ c → ∀ ad0, A = some ad0 → p ≠ ad0.add n) → w'.cell? p = some u) := by
  obtain ⟨hl, hnc, hcm, g, off, cur, rfl, hb, hg, hsz, hx⟩ := hm
  have hnews : ∀ j u, [v][j]? = some u → w.cell? (ad.add j) = some u := fun j u hu => by
    match j, hu with
    | 0, hu =>
      simp at hu
      subst hu
      simpa [Addr.add] using hv
  by_cases hroom : n + 1 ≤ c
  · have hcell : (w.cell? ⟨g, off + n, none⟩).isSome = true := by
      rw [hg.cell]; simp; omega
    have hr := run_append_room_cells (P := P) w t ty e i ht hi g off n c ad 1 k [v] (by simp [hsize]) hnews (by simpa using h1) hroom (fun j hj => by
      have : j = 0 := by simpa using hj
      subst this
      rw [hsize, Nat.mul_one, Nat.add_zero]; exact hcell) (fun j hj => by
      have : j = 0 := by simpa using hj
      subst this
      exact hg.frozen _)
    rw [hsize, Nat.mul_one] at hr
    refine ⟨_, _, _, hr, ⟨by rw [List.length_append, hl]; rfl, hroom, hcm, g, off, cur.setIfInBounds (off + n) v, rfl, hb, ?_, by simpa using hsz, fun j u hu => ?_⟩, ?_⟩
    · have := hg.set_ (off + n) v
      simpa [World.setCells] using this
    · rw [Array.getElem?_setIfInBounds]
      by_cases hj : j = n
      · subst hj
        rw [if_pos rfl, if_pos (by omega)]
        rw [List.getElem?_append_right (by omega), hl, Nat.sub_self] at hu
        simpa using hu
      · rw [if_neg (by omega)]
        have hjn : j < n := by
          have := (List.getElem?_eq_some_iff.1 hu).1
          rw [List.length_append, hl] at this
          simp at this
          omega
        rw [List.getElem?_append_left (by omega)] at hu
        exact hx j u hu
    · have : w.grownBy (w.setCell ⟨g, off + n, none⟩ v) (some g) := ⟨rfl, rfl, rfl, by simp, fun b _ hb => Below.heap_setCell w ⟨g, off + n, none⟩ v b (fun e => hb (by rw [e]))⟩
      refine ⟨by simpa [World.setCells] using this, fun p u hp hne => ?_⟩
      have hne' := hne hroom _ rfl
      have e1 : (⟨g, off, none⟩ : Addr).add n = ⟨g, off + n, none⟩ := by
        unfold Addr.add
        split
        · rename_i h0; subst h0; rfl
        · rfl
      rw [e1] at hne'
      have := World.cell?_setCell_other w ⟨g, off + n, none⟩ p v hne'.symm
      simpa [World.setCells] using this.trans hp
  · obtain ⟨v', w', hr, ho, hgw⟩ := run_append_arg_grows (P := P) w t ty e i z 1 bytes ht hi hz hsize hby hzs (by omega) ⟨g, off, none⟩ n c xs (by omega) (fun j u hu => by
      have e1 : (⟨g, off, none⟩ : Addr).add j = ⟨g, off + j, none⟩ := by
        unfold Addr.add
        split
        · rename_i h0; subst h0; rfl
        · rfl
      rw [e1, hg.cell]; exact hx j u hu) ad 1 k [v] (by simp) hnews (by omega) h63 hbytes
    rcases ho.2 with ⟨_, h0⟩ | ⟨g', cap, cur', rfl, _⟩
    · omega
    · exact ⟨_, _, w', hr, Mid.of_own (own_base ho hbw), ⟨hgw.os, hgw.tape, hgw.output, hgw.size, fun k hk _ => hgw.block k hk (by simp)⟩, fun p u hp _ => (World.cell?_of_block (hgw.block p.block (lt_of_cell hp) (by simp))).trans hp⟩
/-- the same, as one step of a region that draws -/
theorem step_append_mid {ops : Array Oper} {o : Oper} {a : Act} {K : Act → World → Prop} {Q : Exit → Act → World → Prop} {E : Prop} (hgd : o.guard = none) (s x : Operand) (t : TypeId)
    (ho : o.op = .call { callee := .builtin .append, args := #[s, x], argTypes := #[t, t] }) (e : TypeId) (i : TypeInfo) (z : Value) (bytes : Nat) (ht : P.underlying t = some (.slice e)) (hi : P.info? e = some i) (hz : i.zero = some z) (hsize : i.size = 1) (hby : i.bytes = bytes) (hzs : z.cells.size = 1)
    (base : Nat) (A : Option Addr) (n c : Nat) (xs : List Value) (hs : a.eval s = .slice A n c) (hm : Mid w base e A n c xs) (hbw : base ≤ w.heap.size) (ad : Addr) (k : Nat) (v : Value) (hx : a.eval x = .slice (some ad) 1 k) (hv : w.cell? ad = some v) (h1 : v.oneCell' = true) (h63 : n + 1 ≤ maxLen) (hbytes : (n + 1) * bytes ≤ 140737488355328)
    (h : ∀ A' c' w', Mid w' base e A' (n + 1) c' (xs ++ [v]) → w.grownBy w' (A.map (·.block)) → (∀ p u, w.cell? p = some u → (n + 1 ≤ c → ∀ ad0, A = some ad0 → p ≠ ad0.add n) → w'.cell? p = some u) → K (a.put o.dst (.slice A' (n + 1) c')) w') : if Region.wanted o (yielded ops a.tmps) = true then Oper.wp P o a w K Q else E := by
  have hw : Region.wanted o (yielded ops a.tmps) = true := by simp [Region.wanted, hgd]
  rw [if_pos hw]
  obtain ⟨A', c', w', hr, h2, h3, h4⟩ := run_append_mid (P := P) t o.type e i z bytes ht hi hz hsize hby hzs base A n c xs hm hbw ad k v hv h1 h63 hbytes
  unfold Oper.wp
  simp [execOp, ho, resolve, invoke, builtin, hs, hx, hr, Result.andThen]
  exact h A' c' w' h2 h3 h4
end
end Go.Proofs.Ytpgnaahfkcgflaa
